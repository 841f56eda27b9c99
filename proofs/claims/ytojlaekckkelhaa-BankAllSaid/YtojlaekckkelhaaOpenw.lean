/-
  Arguments that are slices of words, opened. Over any program.
-/
import Derived.ProofKit
import Derived.OpenShut
import Derived.SizedLaws
import Derived.Test.YtojlaekckkelhaaHeap
namespace Go.Proofs.Ytojlaekckkelhaa
set_option linter.unusedVariables false
set_option linter.unusedSimpArgs false
open Go.ChangeShapes Go.WideShapes Go.ChangeAt Go.RowKit

section
variable {H : Type} {enc : TypeId × Value → H} {P : Program} {w : World} {base b0 : Nat} {held : Bool} {r : Reach} {t e : TypeId} {v : Value} {d : DataW H} {p : List MemPlace}

theorem open_words (ht : P.underlying t = some (.slice e)) (he : P.underlying e = some (.int .u64)) (hce : P.cellsOf e = 1) (hv : Value.okWide P w r b0 t v) (h : DataW.Trod enc P w base (fun _ => true) held t v d p) :
    ∃ l : List Int, Words w v l ∧ (∀ x ∈ l, U64 x) ∧ (l = [] ∨ ∃ es ss : List (DataW H), d = .slice es ss ∧ es.length = l.length) := by
  obtain ⟨a0, len, cap, rfl⟩ := okWide_slice ht hv
  obtain ⟨fuel, hf⟩ := h
  rcases open_ints ht he hce hf with ⟨hcs, hx⟩ | ⟨a, len', cap', zs, hcs, _, hl, hm, hz, hx, hcell, hwz⟩
  · simp [Value.cells] at hcs
    obtain ⟨rfl, rfl, rfl⟩ := hcs
    exact ⟨[], .inl ⟨rfl, rfl⟩, by simp, .inl rfl⟩
  · simp [Value.cells] at hcs
    obtain ⟨rfl, rfl, rfl⟩ := hcs
    simp only [if_true] at hz
    simp only [Prod.mk.injEq] at hx
    have hlen : (zs.take len).length = len := by simp [List.length_take]; omega
    refine ⟨zs.take len, .inr ⟨a, cap, by rw [hlen], by omega, fun i hi => ?_⟩, fun x hx => u64_of (hwz x (List.mem_of_mem_take hx)), .inr ⟨_, _, hx.1, by simp [lits]⟩⟩
    rw [hlen] at hi
    rw [hcell i (by omega)]
    simp [List.getD, List.getElem?_take, hi]
end
end Go.Proofs.Ytojlaekckkelhaa
