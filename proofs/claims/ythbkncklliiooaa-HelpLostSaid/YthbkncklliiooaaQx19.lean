-- PRINTED by print.py (a twelfth state) out of the translation. Not trusted: Lean checks it.
import Derived.Test.YthbkncklliiooaaQx0
namespace Go.Proofs.Ythbkncklliiooaa.Q
open Go.RowKit Go.Proofs.YthbkncklliiooaaW.PrintWords Go.Proofs.YthbkncklliiooaaW.PrintLast Go.Proofs.YthbkncklliiooaaW.PrintMore
attribute [local go_sem] max2_int min2_int max_two min_two max_three min_three max_four min_four   -- for this text's walks alone
set_option linter.unusedVariables false
set_option linter.unusedSimpArgs false
/-! ### stepstoneref02_Meta: function 80 -/
def stepstoneref02_Meta.f (a0 : Int) (a1 : Int) : Option (Int × Bool) := if a0 < 0 then (some (0, false)) else (if a0 > 2 then (some (0, false)) else (if a1 < 0 then (some (0, false)) else (if a1 > 1073741823 then (some (0, false)) else (some (IntKind.u64.wrap (wrap64 ((wrap64 (4 * a1)) + a0)), true)))))
set_option maxHeartbeats 8000000 in
set_option maxRecDepth 100000 in
theorem stepstoneref02_Meta.calls (a0 : Int) (a1 : Int) (r1 : Int) (r2 : Bool) (w : World) (h : stepstoneref02_Meta.f a0 a1 = some (r1, r2)) :
  Calls Try.prog 80 #[.int .i64 a0, .int .i64 a1] w fun e w' => e = .returned (.tuple #[.int .u64 r1, .bool r2]) ∧ Drawn0 w w' := by
 have H : (if a0 < 0 then (some (0, false)) else (if a0 > 2 then (some (0, false)) else (if a1 < 0 then (some (0, false)) else (if a1 > 1073741823 then (some (0, false)) else (some (IntKind.u64.wrap (wrap64 ((wrap64 (4 * a1)) + a0)), true)))))) = some (r1, r2) := h
 clear h
 by_cases c3 : a0 < 0
 ·rw [if_pos c3] at H
  have c3b0 : decide (a0 < 0) = true := decide_eq_true c3
  clear c3
  simp only [Option.some.injEq, Prod.mk.injEq] at H
  obtain ⟨rfl, rfl⟩ := H
  go_enter Try.func80, Try.ntmps80
  go_wp2
  go_ret2
  exact ⟨by first | rfl | (simp; done) | (simp [*]; done), by repeat (first | exact Drawn0.refl _ | apply Drawn0.step)⟩
 ·rw [if_neg c3] at H
  have c3b0 : decide (a0 < 0) = false := decide_eq_false c3
  clear c3
  by_cases c4 : a0 > 2
  ·rw [if_pos c4] at H
   have c4b0 : decide (2 < a0) = true := decide_eq_true c4
   clear c4
   simp only [Option.some.injEq, Prod.mk.injEq] at H
   obtain ⟨rfl, rfl⟩ := H
   go_enter Try.func80, Try.ntmps80
   go_wp2
   go_ret2
   exact ⟨by first | rfl | (simp; done) | (simp [*]; done), by repeat (first | exact Drawn0.refl _ | apply Drawn0.step)⟩
  ·rw [if_neg c4] at H
   have c4b0 : decide (2 < a0) = false := decide_eq_false c4
   clear c4
   by_cases c5 : a1 < 0
   ·rw [if_pos c5] at H
    have c5b0 : decide (a1 < 0) = true := decide_eq_true c5
    clear c5
    simp only [Option.some.injEq, Prod.mk.injEq] at H
    obtain ⟨rfl, rfl⟩ := H
    go_enter Try.func80, Try.ntmps80
    go_wp2
    go_ret2
    exact ⟨by first | rfl | (simp; done) | (simp [*]; done), by repeat (first | exact Drawn0.refl _ | apply Drawn0.step)⟩
   ·rw [if_neg c5] at H
    have c5b0 : decide (a1 < 0) = false := decide_eq_false c5
    clear c5
    by_cases c6 : a1 > 1073741823
    ·rw [if_pos c6] at H
     have c6b0 : decide (1073741823 < a1) = true := decide_eq_true c6
     clear c6
     simp only [Option.some.injEq, Prod.mk.injEq] at H
     obtain ⟨rfl, rfl⟩ := H
     go_enter Try.func80, Try.ntmps80
     go_wp2
     go_ret2
     exact ⟨by first | rfl | (simp; done) | (simp [*]; done), by repeat (first | exact Drawn0.refl _ | apply Drawn0.step)⟩
    ·rw [if_neg c6] at H
     have c6b0 : decide (1073741823 < a1) = false := decide_eq_false c6
     clear c6
     simp only [Option.some.injEq, Prod.mk.injEq] at H
     obtain ⟨rfl, rfl⟩ := H
     go_enter Try.func80, Try.ntmps80
     go_wp2
     go_ret2
     exact ⟨by first | rfl | (simp; done) | (simp [*]; done), by repeat (first | exact Drawn0.refl _ | apply Drawn0.step)⟩
/-! ### stepstoneref02_Taken: function 61 -/
def stepstoneref02_Taken.f (a0 : Int) : Option (Int) := (stepstoneref02_Meta.f 1 a0).bind fun bt252 => (some bt252.1)
set_option maxHeartbeats 8000000 in
set_option maxRecDepth 100000 in
theorem stepstoneref02_Taken.calls (a0 : Int) (r : Int) (w : World) (h : stepstoneref02_Taken.f a0 = some r) :
  Calls Try.prog 61 #[.int .i64 a0] w fun e w' => e = .returned (.int .u64 r) ∧ Drawn0 w w' := by
 have H : ((stepstoneref02_Meta.f 1 a0).bind fun bt252 => (some bt252.1)) = some r := h
 clear h
 replace H := Option.bind_eq_some_iff.mp H
 obtain ⟨⟨t252, t253⟩, A20, H⟩ := H
 replace H : (some t252) = some r := H
 have A2 := Aside0.mk A20
 clear A20
 obtain rfl := Option.some.inj H
 go_enter Try.func61, Try.ntmps61
 go_wp2_with (first | ((with_reducible refine gate_callee (f := 80) rfl ?_); refine goesL_ (some 7) rfl rfl Try.func80 (by kernel_rfl) rfl #[.int .i64 1, .int .i64 a0] rfl (by (try simp only [List.map_toArray, List.map_cons, List.map_nil]); first | done | rfl | (simp only [List.length_drop, List.length_take]; rfl)) ?_; (with_reducible refine (stepstoneref02_Meta.calls 1 a0 t252 t253 _ A2.out).mono ?_); rintro e w' ⟨rfl, ⟨nd, rfl⟩⟩; refine ⟨_, rfl, ?_⟩))
 go_ret
 exact ⟨by first | rfl | (simp; done) | (simp [*]; done), by repeat (first | exact Drawn0.refl _ | apply Drawn0.step)⟩
end Go.Proofs.Ythbkncklliiooaa.Q
