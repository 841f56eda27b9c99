/-
  The node's setting in a row of words.
-/
import Derived.Test.YthbkncklliiooaaHt
import Derived.Test.YthbkncklliiooaaHo
namespace Go.Proofs.YthbkncklliiooaaH
set_option linter.unusedVariables false
set_option linter.unusedSimpArgs false
open Go.RowKit Go.Proofs.YthbkncklliiooaaW.PrintWords Go.Proofs.YthbkncklliiooaaW.PrintLast Go.Proofs.YthbkncklliiooaaW.PrintMore

/-- The node's setting in a row of words. -/
theorem ctx_of {c : Cf} {h : Int} {l : List Int} (hth : There c l) (hh : U64 h) (hi : hI h ≤ c.cp) (hu : ∀ x ∈ l, U64 x) :
    ∃ T : Nat, Ctx c h T ∧ Row c h T l ∧ (T : Int) = topLv c (l.getD (tc c h) 0) + 1 := by
  obtain ⟨t0, t1⟩ := topLv_bounds c hth.1 (l.getD (tc c h) 0)
  obtain ⟨T, hT⟩ := Int.eq_ofNat_of_zero_le (by omega : 0 ≤ topLv c (l.getD (tc c h) 0) + 1)
  refine ⟨T, ⟨hth.1, ?_, hi, by omega, by omega⟩, ⟨hth.2.1, hu, hT⟩, hT.symm⟩
  unfold hI
  have := hh.1
  omega

theorem top_mx {c : Cf} {n : Int} {T : Nat} (hT : (T : Int) = topLv c n + 1) : mn (mx n 1) c.he = (T : Int) := by
  rw [hT]
  unfold topLv mx mn
  split <;> split <;> omega

end Go.Proofs.YthbkncklliiooaaH
