-- PRINTED by print.py (a twelfth state) out of the translation. Not trusted: Lean checks it.
import Derived.Test.YthbkncklliiooaaQx0
import Derived.Test.YthbkncklliiooaaHn
namespace Go.Proofs.Ythbkncklliiooaa.Q
open Go.RowKit Go.Proofs.YthbkncklliiooaaW.PrintWords Go.Proofs.YthbkncklliiooaaW.PrintLast Go.Proofs.YthbkncklliiooaaW.PrintMore
attribute [local go_sem] max2_int min2_int max_two min_two max_three min_three max_four min_four   -- for this text's walks alone
set_option linter.unusedVariables false
set_option linter.unusedSimpArgs false
/-! ### stepstoneref05_New: function 59 -/
def stepstoneref05_New.f (a0_0 : Int) (a0_1 : Int) (a0_2 : Int) (a0_3 : Int) (a0_4 : Int) (a0_5 : Int) (a0_6 : Int) : Option (Int × Int × Int × Int × Int × Int × Int × List Int × Int × Int × Int × Int × Int × Int × Bool) :=
 if Go.Proofs.YthbkncklliiooaaH.Cf.Ok (⟨a0_0, a0_1, a0_2, a0_3, a0_4, a0_5, a0_6⟩ : Go.Proofs.YthbkncklliiooaaH.Cf) then some (a0_0, a0_1, a0_2, a0_3, a0_4, a0_5, a0_6, Go.Proofs.YthbkncklliiooaaH.Cf.words0 (⟨a0_0, a0_1, a0_2, a0_3, a0_4, a0_5, a0_6⟩ : Go.Proofs.YthbkncklliiooaaH.Cf), 0, 0, 0, 0, 0, 0, false) else none
theorem stepstoneref05_New.calls (a0_0 : Int) (a0_1 : Int) (a0_2 : Int) (a0_3 : Int) (a0_4 : Int) (a0_5 : Int) (a0_6 : Int) (r1 : Int) (r2 : Int) (r3 : Int) (r4 : Int) (r5 : Int) (r6 : Int) (r7 : Int) (r8 : List Int) (r9 : Int) (r10 : Int) (r11 : Int) (r12 : Int) (r13 : Int) (r14 : Int) (r15 : Bool) (w : World) (h : stepstoneref05_New.f a0_0 a0_1 a0_2 a0_3 a0_4 a0_5 a0_6 = some (r1, r2, r3, r4, r5, r6, r7, r8, r9, r10, r11, r12, r13, r14, r15)) :
  Calls Try.prog 59 #[.agg #[.int .i64 a0_0, .int .i64 a0_1, .int .i64 a0_2, .int .i64 a0_3, .int .i64 a0_4, .int .i64 a0_5, .int .i64 a0_6]] w fun e w' => ∃ v7_ : Value, e = .returned (.agg #[.int .i64 r1, .int .i64 r2, .int .i64 r3, .int .i64 r4, .int .i64 r5, .int .i64 r6, .int .i64 r7, v7_, .int .i64 r9, .int .i64 r10, .int .i64 r11, .int .u64 r12, .int .u64 r13, .int .u64 r14, .bool r15]) ∧ Kd.R (Kd.int .u64) 40 w' w.heap.size (fun _ => True) v7_ r8 ∧ Below w.heap.size w w' := by
 by_cases hc : Go.Proofs.YthbkncklliiooaaH.Cf.Ok (⟨a0_0, a0_1, a0_2, a0_3, a0_4, a0_5, a0_6⟩ : Go.Proofs.YthbkncklliiooaaH.Cf)
 ·have e : stepstoneref05_New.f a0_0 a0_1 a0_2 a0_3 a0_4 a0_5 a0_6 = some (a0_0, a0_1, a0_2, a0_3, a0_4, a0_5, a0_6, Go.Proofs.YthbkncklliiooaaH.Cf.words0 (⟨a0_0, a0_1, a0_2, a0_3, a0_4, a0_5, a0_6⟩ : Go.Proofs.YthbkncklliiooaaH.Cf), 0, 0, 0, 0, 0, 0, false) := if_pos hc
  rw [e] at h
  simp only [Option.some.injEq, Prod.mk.injEq] at h
  obtain ⟨rfl, rfl, rfl, rfl, rfl, rfl, rfl, rfl, rfl, rfl, rfl, rfl, rfl, rfl, rfl⟩ := h
  exact Go.Proofs.YthbkncklliiooaaH.r05_given (⟨a0_0, a0_1, a0_2, a0_3, a0_4, a0_5, a0_6⟩ : Go.Proofs.YthbkncklliiooaaH.Cf) hc w
 ·have e : stepstoneref05_New.f a0_0 a0_1 a0_2 a0_3 a0_4 a0_5 a0_6 = none := if_neg hc
  rw [e] at h
  cases h
end Go.Proofs.Ythbkncklliiooaa.Q
