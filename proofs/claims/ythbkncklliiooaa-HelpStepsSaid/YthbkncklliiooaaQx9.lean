-- PRINTED by print.py (a twelfth state) out of the translation. Not trusted: Lean checks it.
import Derived.Test.YthbkncklliiooaaQx0
import Derived.Test.YthbkncklliiooaaHeap
import Derived.Test.YthbkncklliiooaaQx8
namespace Go.Proofs.Ythbkncklliiooaa.Q
open Go.RowKit Go.Proofs.YthbkncklliiooaaW.PrintWords Go.Proofs.YthbkncklliiooaaW.PrintLast Go.Proofs.YthbkncklliiooaaW.PrintMore
attribute [local go_sem] max2_int min2_int max_two min_two max_three min_three max_four min_four   -- for this text's walks alone
set_option linter.unusedVariables false
set_option linter.unusedSimpArgs false
/-! ### stepstoneref04_Len: function 19 -/
def stepstoneref04_Len.f (a0_0 : Int) (a0_1 : Int) (a0_2 : Int) (a0_3 : Int) (a0_4 : Int) (a0_5 : Int) (a0_6 : Int) : Option (Int) := (stepstoneref04_Right.f a0_0 a0_1 a0_2 a0_3 a0_4 a0_5 a0_6).bind fun t139 => (if t139 = true then (some (wrap64 ((wrap64 (1 + (wrap64 (a0_0 * a0_1)))) + (wrap64 ((wrap64 (a0_2 + 1)) * (wrap64 (6 + a0_3))))))) else (some 0))
set_option maxHeartbeats 8000000 in
set_option maxRecDepth 100000 in
theorem stepstoneref04_Len.calls (a0_0 : Int) (a0_1 : Int) (a0_2 : Int) (a0_3 : Int) (a0_4 : Int) (a0_5 : Int) (a0_6 : Int) (r : Int) (w : World) (h : stepstoneref04_Len.f a0_0 a0_1 a0_2 a0_3 a0_4 a0_5 a0_6 = some r) :
  Calls Try.prog 19 #[.agg #[.int .i64 a0_0, .int .i64 a0_1, .int .i64 a0_2, .int .i64 a0_3, .int .i64 a0_4, .int .i64 a0_5, .int .i64 a0_6]] w fun e w' => e = .returned (.int .i64 r) ∧ Below w.heap.size w w' := by
 have hu23 := Try.underlying23
 have HB := Aside0.mk (Below.refl w.heap.size w)
 have H : ((stepstoneref04_Right.f a0_0 a0_1 a0_2 a0_3 a0_4 a0_5 a0_6).bind fun t139 => (if t139 = true then (some (wrap64 ((wrap64 (1 + (wrap64 (a0_0 * a0_1)))) + (wrap64 ((wrap64 (a0_2 + 1)) * (wrap64 (6 + a0_3))))))) else (some 0))) = some r := h
 clear h
 replace H := Option.bind_eq_some_iff.mp H
 obtain ⟨t139, A20, H⟩ := H
 replace H : (if t139 = true then (some (wrap64 ((wrap64 (1 + (wrap64 (a0_0 * a0_1)))) + (wrap64 ((wrap64 (a0_2 + 1)) * (wrap64 (6 + a0_3))))))) else (some 0)) = some r := H
 have A2 := Aside0.mk A20
 clear A20
 by_cases c3 : t139 = true
 ·subst c3
  have H1 : (some (wrap64 ((wrap64 (1 + (wrap64 (a0_0 * a0_1)))) + (wrap64 ((wrap64 (a0_2 + 1)) * (wrap64 (6 + a0_3))))))) = some r := by rw [if_pos rfl] at H; exact H
  clear H
  have H := H1
  clear H1
  obtain rfl := Option.some.inj H
  go_enter Try.func19, Try.ntmps19
  go_wp2_with fail
  refine (stepstoneref04_Right.calls _ _ _ _ _ _ _ _ _ A2.out).mono ?_
  rintro e w1 ⟨rfl, g1⟩
  have X1 := Go.Proofs.YthbkncklliiooaaH.Blk.gr (Go.Proofs.YthbkncklliiooaaH.Blk.new w _ _) g1
  have x0 := X1.cell (i := 0) rfl
  have x1 := X1.cell (i := 1) rfl
  have x2 := X1.cell (i := 2) rfl
  have x3 := X1.cell (i := 3) rfl
  have x4 := X1.cell (i := 4) rfl
  have x5 := X1.cell (i := 5) rfl
  have x6 := X1.cell (i := 6) rfl
  have xl := X1.lt
  clear X1
  go_wp2_with fail
  go_ret
  exact ⟨by first | rfl | (simp; done) | (simp [*]; done), Go.Proofs.YthbkncklliiooaaH.Gr.trans ((Go.Proofs.YthbkncklliiooaaH.Gr.refl w).alloc _) g1⟩
 ·replace c3 := Bool.eq_false_iff.mpr c3
  subst c3
  have H1 : (some 0) = some r := by rw [if_neg (show ¬ (false = true) by decide)] at H; exact H
  clear H
  have H := H1
  clear H1
  obtain rfl := Option.some.inj H
  go_enter Try.func19, Try.ntmps19
  go_wp2_with fail
  refine (stepstoneref04_Right.calls _ _ _ _ _ _ _ _ _ A2.out).mono ?_
  rintro e w1 ⟨rfl, g1⟩
  have X1 := Go.Proofs.YthbkncklliiooaaH.Blk.gr (Go.Proofs.YthbkncklliiooaaH.Blk.new w _ _) g1
  have x0 := X1.cell (i := 0) rfl
  have x1 := X1.cell (i := 1) rfl
  have x2 := X1.cell (i := 2) rfl
  have x3 := X1.cell (i := 3) rfl
  have x4 := X1.cell (i := 4) rfl
  have x5 := X1.cell (i := 5) rfl
  have x6 := X1.cell (i := 6) rfl
  have xl := X1.lt
  clear X1
  go_wp2_with fail
  go_ret
  exact ⟨by first | rfl | (simp; done) | (simp [*]; done), Go.Proofs.YthbkncklliiooaaH.Gr.trans ((Go.Proofs.YthbkncklliiooaaH.Gr.refl w).alloc _) g1⟩
end Go.Proofs.Ythbkncklliiooaa.Q
