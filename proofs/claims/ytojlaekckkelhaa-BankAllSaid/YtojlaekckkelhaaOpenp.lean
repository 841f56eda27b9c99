/-
  A script of accesses as an argument, opened.
-/
import Derived.ProofKit
import Derived.OpenShut
import Derived.SizedLaws
import Derived.Deep.Slices
import Derived.Deep.Fields
import Derived.ChangeSame
import Derived.Test.YtojlaekckkelhaaOpen
import Derived.Test.YtojlaekckkelhaaBl
namespace Go.Proofs.Ytojlaekckkelhaa
set_option linter.unusedVariables false
set_option linter.unusedSimpArgs false
open Go.ChangeShapes Go.WideShapes Go.ChangeAt Go.RowKit Go.Deep

section
variable {H : Type} {enc : TypeId × Value → H} {P : Program} {w : World} {base : Nat} {spare : Nat → Bool} {held : Bool}
theorem open_slice_fields {t e : TypeId} {fs : Array Field} {fuel : Nat} {cs : List Value} {x : DataW H × List MemPlace} (ht : P.underlying t = some (.slice e)) (he : P.underlying e = some (.struct fs))
    (hone : oneCellFields P fs = true) (hC : P.cellsOf e = fs.size) (h : DataW.trod enc P w base spare held fuel t cs = some x) :
    (cs = [.slice none 0 0] ∧ x = (.nil, [])) ∨
    ∃ (a : Addr) (len cap m : Nat) (D : Nat → DataW H) (Pl : Nat → List MemPlace), cs = [.slice (some a) len cap] ∧ base ≤ a.block ∧ len ≤ cap ∧ cap ≤ maxLen ∧ m = (if spare a.block then cap else len) ∧
      x = (.slice ((List.range len).map D) ((List.range (m - len)).map fun j => D (len + j)), MemPlace.row a (m * fs.size) ++ (List.range m).flatMap Pl) ∧
      ∀ i, i < m → ∃ (ys : List (DataW H × List MemPlace)) (n : Nat), D i = .agg (ys.map (·.1)) ∧ Pl i = ys.flatMap (·.2) ∧ ys.length = fs.size ∧
        ∀ (j : Nat) (f : Field), fs[j]? = some f → ∃ (v : Value) (y : DataW H × List MemPlace), w.cell? (a.add (i * fs.size + j)) = some v ∧ ys[j]? = some y ∧ DataW.trod enc P w base spare held n f.type [v] = some y := by
  rcases open_slice ht h with h0 | ⟨a, len, cap, m, n, D, Pl, hcs, hb, hl, hm, hmm, hx, hi⟩
  · exact .inl h0
  · refine .inr ⟨a, len, cap, m, D, Pl, hcs, hb, hl, hm, hmm, by rw [hC] at hx; exact hx, fun i him => ?_⟩
    obtain ⟨cs', hc, ht'⟩ := hi i him
    rw [hC] at hc
    obtain ⟨ys, n', hn', hy, hlen, hyl, hf⟩ := DataW.trod_struct he ht'
    obtain ⟨_, hcl, hat⟩ := World.cells?_some hc
    simp only [Prod.mk.injEq] at hy
    refine ⟨ys, n', hy.1, hy.2, hyl, fun j f hj => ?_⟩
    obtain ⟨ho, hk⟩ := hone_of hone j f hj
    have hjl : j < fs.size := (Array.getElem?_eq_some_iff.1 hj).1
    have hcell := hat j hjl
    have hv : cs'[j]? = some (cs'[j]'(by omega)) := List.getElem?_eq_getElem (by omega)
    have h1 := hf j f hj
    rw [ho, hk] at h1
    have hone' : (cs'.drop j).take 1 = [cs'[j]'(by omega)] := by
      rw [List.drop_eq_getElem_cons (by omega)]
      rfl
    rw [hone'] at h1
    have hys : ys[j]? = some (ys[j]'(by omega)) := List.getElem?_eq_getElem (by omega)
    refine ⟨_, _, ?_, hys, h1.trans hys⟩
    rw [← Go.Deep.add_add, hcell, hv]
end

theorem open_ops {H : Type} {enc : TypeId × Value → H} {w : World} {base b0 : Nat} {spare : Nat → Bool} {held : Bool} {r : Reach} {v : Value} {d : DataW H} {p : List MemPlace}
    (hv : Value.okWide Try.prog w r b0 48 v) (h : DataW.Trod enc Try.prog w base spare held 48 v d p) : ∃ L : List Opq, Ops w v L := by
  obtain ⟨a0, len, cap, rfl⟩ := okWide_slice Try.underlying48 hv
  obtain ⟨fuel, hf⟩ := h
  rcases open_slice_fields Try.underlying48 Try.underlying52 (by kernel_rfl) (by kernel_rfl) hf with ⟨hcs, hx⟩ | ⟨a, len', cap', m, D, Pl, hcs, _, hl, _, hm, hx, hi⟩
  · simp [Value.cells] at hcs
    obtain ⟨rfl, rfl, rfl⟩ := hcs
    exact ⟨[], none, 0, rfl, Nat.le_refl _, fun i hi => absurd hi (by simp)⟩
  · simp [Value.cells] at hcs
    obtain ⟨rfl, rfl, rfl⟩ := hcs
    have hlm : len ≤ m := by subst hm; split <;> omega
    have one : ∀ i, ∃ o : Opq, i < len → w.cell? (a.add (i * 5)) = some (.int .i64 o.k) ∧ w.cell? (a.add (i * 5 + 1)) = some (.int .i64 o.c) ∧
        w.cell? (a.add (i * 5 + 2)) = some (.int .u64 o.via) ∧ w.cell? (a.add (i * 5 + 3)) = some (.int .u64 o.old) ∧ w.cell? (a.add (i * 5 + 4)) = some (.int .u64 o.v) := by
      intro i
      by_cases h : i < len
      · obtain ⟨ys, n, _, _, _, hj⟩ := hi i (by omega)
        obtain ⟨v0, y0, c0, _, t0⟩ := hj 0 _ rfl
        obtain ⟨v1, y1, c1, _, t1⟩ := hj 1 _ rfl
        obtain ⟨v2, y2, c2, _, t2⟩ := hj 2 _ rfl
        obtain ⟨v3, y3, c3, _, t3⟩ := hj 3 _ rfl
        obtain ⟨v4, y4, c4, _, t4⟩ := hj 4 _ rfl
        obtain ⟨x0, rfl, _⟩ := leaf_int Try.underlying3 ⟨_, _, t0⟩
        obtain ⟨x1, rfl, _⟩ := leaf_int Try.underlying3 ⟨_, _, t1⟩
        obtain ⟨x2, rfl, _⟩ := leaf_int Try.underlying22 ⟨_, _, t2⟩
        obtain ⟨x3, rfl, _⟩ := leaf_int Try.underlying22 ⟨_, _, t3⟩
        obtain ⟨x4, rfl, _⟩ := leaf_int Try.underlying22 ⟨_, _, t4⟩
        exact ⟨⟨x0, x1, x2, x3, x4⟩, fun _ => ⟨c0, c1, c2, c3, c4⟩⟩
      · exact ⟨default, fun h' => absurd h' h⟩
    obtain ⟨f, hf⟩ := Classical.axiomOfChoice one
    refine ⟨(List.range len).map f, some a, cap, by simp, by simpa using hl, fun i hi => ⟨a, rfl, ?_⟩⟩
    have hi' : i < len := by simpa using hi
    have e : ((List.range len).map f).getD i default = f i := by simp [List.getD, hi']
    rw [e]
    exact hf i hi'
end Go.Proofs.Ytojlaekckkelhaa
