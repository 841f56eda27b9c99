/-
  An op of the statements, opened.
-/
import Derived.Test.YtojlaekckkelhaaOpen
import Derived.Test.YtojlaekckkelhaaBg
namespace Go.Proofs.Ytojlaekckkelhaa
set_option linter.unusedVariables false
set_option linter.unusedSimpArgs false
open Go.ChangeShapes Go.WideShapes Go.ChangeAt Go.RowKit Go.Joins Go.Deep

theorem open_op {H : Type} {enc : TypeId × Value → H} {w : World} {base b0 : Nat} {spare : Nat → Bool} {held : Bool} {r : Reach} {v0 : Value} {d : DataW H} {p : List MemPlace}
    (hv : Value.okWide Try.prog w r b0 52 v0) (h : DataW.Trod enc Try.prog w base spare held 52 v0 d p) :
    ∃ k c via old v : Int, v0 = opv k c via old v ∧ (Lit.int .i64 k).wf = true ∧ (Lit.int .i64 c).wf = true ∧ (Lit.int .u64 via).wf = true ∧ (Lit.int .u64 old).wf = true ∧ (Lit.int .u64 v).wf = true := by
  obtain ⟨cs, rfl, hl, hg⟩ := open_struct Try.underlying52 (by kernel_rfl) (by kernel_rfl) hv h
  match cs, hl with
  | [c0, c1, c2, c3, c4], _ =>
    obtain ⟨x0, rfl, h0⟩ := leaf_int Try.underlying3 (hg 0 _ _ rfl rfl)
    obtain ⟨x1, rfl, h1⟩ := leaf_int Try.underlying3 (hg 1 _ _ rfl rfl)
    obtain ⟨x2, rfl, h2⟩ := leaf_int Try.underlying22 (hg 2 _ _ rfl rfl)
    obtain ⟨x3, rfl, h3⟩ := leaf_int Try.underlying22 (hg 3 _ _ rfl rfl)
    obtain ⟨x4, rfl, h4⟩ := leaf_int Try.underlying22 (hg 4 _ _ rfl rfl)
    exact ⟨x0, x1, x2, x3, x4, rfl, h0, h1, h2, h3, h4⟩
end Go.Proofs.Ytojlaekckkelhaa
