/-
  A node and whose step comes, as an argument, opened.
-/
import Derived.Test.YthbkncklliiooaaOpen
import Derived.Test.YthbkncklliiooaaProg
import Derived.Deep.Grids
namespace Go.Proofs.YthbkncklliiooaaH
set_option linter.unusedVariables false
set_option linter.unusedSimpArgs false
open Go.ChangeShapes Go.WideShapes Go.ChangeAt Go.RowKit Go.Joins Go.Deep

/-- A slice of bools that is read. -/
def Bools (w : World) (s : Value) (L : List Bool) : Prop := ∃ (A : Option Addr) (cap : Nat), s = .slice A L.length cap ∧ L.length ≤ cap ∧ ∀ i, i < L.length → ∃ a, A = some a ∧ w.cell? (a.add i) = some (.bool (L.getD i false))
def Turns (w : World) (v : Value) (T : Int × List Bool) : Prop := ∃ s, v = .agg #[.int .u64 T.1, s] ∧ U64 T.1 ∧ Bools w s T.2

set_option maxRecDepth 100000 in
theorem open_turns {H : Type} {enc : TypeId × Value → H} {w : World} {base b0 : Nat} {held : Bool} {r : Reach} {v : Value} {d : DataW H} {p : List MemPlace}
    (hv : Value.okWide Try.prog w r b0 43 v) (h : DataW.Trod enc Try.prog w base (fun _ => true) held 43 v d p) : ∃ T : Int × List Bool, Turns w v T := by
  obtain ⟨cs, rfl, hl, hg⟩ := open_struct Try.underlying43 (by kernel_rfl) (by kernel_rfl) hv h
  have hl2 : cs.length = 2 := hl
  match cs, hl2 with
  | [c0, c1], _ =>
    obtain ⟨x, rfl, hx⟩ := leaf_int Try.underlying40 (hg 0 _ c0 rfl rfl)
    obtain ⟨m, y, hm⟩ := hg 1 _ c1 rfl rfl
    rcases open_bools Try.underlying41 Try.underlying4 (by kernel_rfl) hm with ⟨hcs, _⟩ | ⟨a, len, cap, B, hcs, _, hlc, _, _, hB⟩
    · simp only [List.cons.injEq, and_true] at hcs
      exact ⟨(x, []), c1, rfl, u64_of hx, none, 0, hcs, Nat.le_refl _, fun i hi => absurd hi (by simp)⟩
    · simp only [List.cons.injEq, and_true] at hcs
      refine ⟨(x, (List.range len).map B), c1, rfl, u64_of hx, some a, cap, by simpa using hcs, by simpa using hlc, fun i hi => ⟨a, rfl, ?_⟩⟩
      have hi' : i < len := by simpa using hi
      rw [hB i (by omega)]
      simp [List.getD, hi']
end Go.Proofs.YthbkncklliiooaaH
