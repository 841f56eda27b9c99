-- PRINTED by print.py (a twelfth state) out of the translation. Not trusted: Lean checks it.
import Derived.Test.YthbkncklliiooaaQx0
namespace Go.Proofs.Ythbkncklliiooaa.Q
open Go.RowKit Go.Proofs.YthbkncklliiooaaW.PrintWords Go.Proofs.YthbkncklliiooaaW.PrintLast Go.Proofs.YthbkncklliiooaaW.PrintMore
attribute [local go_sem] max2_int min2_int max_two min_two max_three min_three max_four min_four   -- for this text's walks alone
set_option linter.unusedVariables false
set_option linter.unusedSimpArgs false
/-! ### stepstoneref04_Right: function 17 -/
def stepstoneref04_Right.f (a0_0 : Int) (a0_1 : Int) (a0_2 : Int) (a0_3 : Int) (a0_4 : Int) (a0_5 : Int) (a0_6 : Int) : Option (Bool) := if a0_0 < 1 then (some false) else (if a0_0 > 8 then (some false) else (if a0_1 < 1 then (some false) else (if a0_1 > 8 then (some false) else (if a0_2 < 1 then (some false) else (if a0_2 > 64 then (some false) else (if a0_3 < 1 then (some false) else (if a0_3 > 6 then (some false) else (if a0_4 ≥ 1 then (if a0_4 ≤ 64 then (if a0_5 ≥ 1 then (if a0_5 ≤ 64 then (if a0_6 ≥ 0 then (some (decide (a0_6 ≤ 1073741823))) else (some false)) else (some false)) else (some false)) else (some false)) else (some false)))))))))
set_option maxHeartbeats 8000000 in
set_option maxRecDepth 100000 in
theorem stepstoneref04_Right.calls (a0_0 : Int) (a0_1 : Int) (a0_2 : Int) (a0_3 : Int) (a0_4 : Int) (a0_5 : Int) (a0_6 : Int) (r : Bool) (w : World) (h : stepstoneref04_Right.f a0_0 a0_1 a0_2 a0_3 a0_4 a0_5 a0_6 = some r) :
  Calls Try.prog 17 #[.agg #[.int .i64 a0_0, .int .i64 a0_1, .int .i64 a0_2, .int .i64 a0_3, .int .i64 a0_4, .int .i64 a0_5, .int .i64 a0_6]] w fun e w' => e = .returned (.bool r) ∧ Below w.heap.size w w' := by
 have hu23 := Try.underlying23
 have HB := Aside0.mk (Below.refl w.heap.size w)
 have H : (if a0_0 < 1 then (some false) else (if a0_0 > 8 then (some false) else (if a0_1 < 1 then (some false) else (if a0_1 > 8 then (some false) else (if a0_2 < 1 then (some false) else (if a0_2 > 64 then (some false) else (if a0_3 < 1 then (some false) else (if a0_3 > 6 then (some false) else (if a0_4 ≥ 1 then (if a0_4 ≤ 64 then (if a0_5 ≥ 1 then (if a0_5 ≤ 64 then (if a0_6 ≥ 0 then (some (decide (a0_6 ≤ 1073741823))) else (some false)) else (some false)) else (some false)) else (some false)) else (some false)))))))))) = some r := h
 clear h
 by_cases c2 : a0_0 < 1
 ·rw [if_pos c2] at H
  have c2b0 : decide (a0_0 < 1) = true := decide_eq_true c2
  clear c2
  obtain rfl := Option.some.inj H
  go_enter Try.func17, Try.ntmps17
  go_wp2_with fail
  go_ret
  exact ⟨by first | rfl | (simp; done) | (simp [*]; done), by first | exact HB.out | exact below_alloc HB.out _ | exact below_alloc (below_alloc HB.out _) _⟩
 ·rw [if_neg c2] at H
  have c2b0 : decide (a0_0 < 1) = false := decide_eq_false c2
  clear c2
  by_cases c5 : a0_0 > 8
  ·rw [if_pos c5] at H
   have c5b0 : decide (8 < a0_0) = true := decide_eq_true c5
   clear c5
   obtain rfl := Option.some.inj H
   go_enter Try.func17, Try.ntmps17
   go_wp2_with fail
   go_ret
   exact ⟨by first | rfl | (simp; done) | (simp [*]; done), by first | exact HB.out | exact below_alloc HB.out _ | exact below_alloc (below_alloc HB.out _) _⟩
  ·rw [if_neg c5] at H
   have c5b0 : decide (8 < a0_0) = false := decide_eq_false c5
   clear c5
   by_cases c8 : a0_1 < 1
   ·rw [if_pos c8] at H
    have c8b0 : decide (a0_1 < 1) = true := decide_eq_true c8
    clear c8
    obtain rfl := Option.some.inj H
    go_enter Try.func17, Try.ntmps17
    go_wp2_with fail
    go_ret
    exact ⟨by first | rfl | (simp; done) | (simp [*]; done), by first | exact HB.out | exact below_alloc HB.out _ | exact below_alloc (below_alloc HB.out _) _⟩
   ·rw [if_neg c8] at H
    have c8b0 : decide (a0_1 < 1) = false := decide_eq_false c8
    clear c8
    by_cases c11 : a0_1 > 8
    ·rw [if_pos c11] at H
     have c11b0 : decide (8 < a0_1) = true := decide_eq_true c11
     clear c11
     obtain rfl := Option.some.inj H
     go_enter Try.func17, Try.ntmps17
     go_wp2_with fail
     go_ret
     exact ⟨by first | rfl | (simp; done) | (simp [*]; done), by first | exact HB.out | exact below_alloc HB.out _ | exact below_alloc (below_alloc HB.out _) _⟩
    ·rw [if_neg c11] at H
     have c11b0 : decide (8 < a0_1) = false := decide_eq_false c11
     clear c11
     by_cases c14 : a0_2 < 1
     ·rw [if_pos c14] at H
      have c14b0 : decide (a0_2 < 1) = true := decide_eq_true c14
      clear c14
      obtain rfl := Option.some.inj H
      go_enter Try.func17, Try.ntmps17
      go_wp2_with fail
      go_ret
      exact ⟨by first | rfl | (simp; done) | (simp [*]; done), by first | exact HB.out | exact below_alloc HB.out _ | exact below_alloc (below_alloc HB.out _) _⟩
     ·rw [if_neg c14] at H
      have c14b0 : decide (a0_2 < 1) = false := decide_eq_false c14
      clear c14
      by_cases c17 : a0_2 > 64
      ·rw [if_pos c17] at H
       have c17b0 : decide (64 < a0_2) = true := decide_eq_true c17
       clear c17
       obtain rfl := Option.some.inj H
       go_enter Try.func17, Try.ntmps17
       go_wp2_with fail
       go_ret
       exact ⟨by first | rfl | (simp; done) | (simp [*]; done), by first | exact HB.out | exact below_alloc HB.out _ | exact below_alloc (below_alloc HB.out _) _⟩
      ·rw [if_neg c17] at H
       have c17b0 : decide (64 < a0_2) = false := decide_eq_false c17
       clear c17
       by_cases c20 : a0_3 < 1
       ·rw [if_pos c20] at H
        have c20b0 : decide (a0_3 < 1) = true := decide_eq_true c20
        clear c20
        obtain rfl := Option.some.inj H
        go_enter Try.func17, Try.ntmps17
        go_wp2_with fail
        go_ret
        exact ⟨by first | rfl | (simp; done) | (simp [*]; done), by first | exact HB.out | exact below_alloc HB.out _ | exact below_alloc (below_alloc HB.out _) _⟩
       ·rw [if_neg c20] at H
        have c20b0 : decide (a0_3 < 1) = false := decide_eq_false c20
        clear c20
        by_cases c23 : a0_3 > 6
        ·rw [if_pos c23] at H
         have c23b0 : decide (6 < a0_3) = true := decide_eq_true c23
         clear c23
         obtain rfl := Option.some.inj H
         go_enter Try.func17, Try.ntmps17
         go_wp2_with fail
         go_ret
         exact ⟨by first | rfl | (simp; done) | (simp [*]; done), by first | exact HB.out | exact below_alloc HB.out _ | exact below_alloc (below_alloc HB.out _) _⟩
        ·rw [if_neg c23] at H
         have c23b0 : decide (6 < a0_3) = false := decide_eq_false c23
         clear c23
         by_cases c26 : a0_4 ≥ 1
         ·rw [if_pos c26] at H
          have c26b0 : decide (1 ≤ a0_4) = true := decide_eq_true c26
          clear c26
          by_cases c27 : a0_4 ≤ 64
          ·rw [if_pos c27] at H
           have c27b0 : decide (a0_4 ≤ 64) = true := decide_eq_true c27
           clear c27
           by_cases c28 : a0_5 ≥ 1
           ·rw [if_pos c28] at H
            have c28b0 : decide (1 ≤ a0_5) = true := decide_eq_true c28
            clear c28
            by_cases c29 : a0_5 ≤ 64
            ·rw [if_pos c29] at H
             have c29b0 : decide (a0_5 ≤ 64) = true := decide_eq_true c29
             clear c29
             by_cases c30 : a0_6 ≥ 0
             ·rw [if_pos c30] at H
              have c30b0 : decide (0 ≤ a0_6) = true := decide_eq_true c30
              clear c30
              obtain rfl := Option.some.inj H
              go_enter Try.func17, Try.ntmps17
              go_wp2_with fail
              go_ret
              exact ⟨by first | rfl | (simp; done) | (simp [*]; done), by first | exact HB.out | exact below_alloc HB.out _ | exact below_alloc (below_alloc HB.out _) _⟩
             ·rw [if_neg c30] at H
              have c30b0 : decide (0 ≤ a0_6) = false := decide_eq_false c30
              clear c30
              obtain rfl := Option.some.inj H
              go_enter Try.func17, Try.ntmps17
              go_wp2_with fail
              go_ret
              exact ⟨by first | rfl | (simp; done) | (simp [*]; done), by first | exact HB.out | exact below_alloc HB.out _ | exact below_alloc (below_alloc HB.out _) _⟩
            ·rw [if_neg c29] at H
             have c29b0 : decide (a0_5 ≤ 64) = false := decide_eq_false c29
             clear c29
             obtain rfl := Option.some.inj H
             go_enter Try.func17, Try.ntmps17
             go_wp2_with fail
             go_ret
             exact ⟨by first | rfl | (simp; done) | (simp [*]; done), by first | exact HB.out | exact below_alloc HB.out _ | exact below_alloc (below_alloc HB.out _) _⟩
           ·rw [if_neg c28] at H
            have c28b0 : decide (1 ≤ a0_5) = false := decide_eq_false c28
            clear c28
            obtain rfl := Option.some.inj H
            go_enter Try.func17, Try.ntmps17
            go_wp2_with fail
            go_ret
            exact ⟨by first | rfl | (simp; done) | (simp [*]; done), by first | exact HB.out | exact below_alloc HB.out _ | exact below_alloc (below_alloc HB.out _) _⟩
          ·rw [if_neg c27] at H
           have c27b0 : decide (a0_4 ≤ 64) = false := decide_eq_false c27
           clear c27
           obtain rfl := Option.some.inj H
           go_enter Try.func17, Try.ntmps17
           go_wp2_with fail
           go_ret
           exact ⟨by first | rfl | (simp; done) | (simp [*]; done), by first | exact HB.out | exact below_alloc HB.out _ | exact below_alloc (below_alloc HB.out _) _⟩
         ·rw [if_neg c26] at H
          have c26b0 : decide (1 ≤ a0_4) = false := decide_eq_false c26
          clear c26
          obtain rfl := Option.some.inj H
          go_enter Try.func17, Try.ntmps17
          go_wp2_with fail
          go_ret
          exact ⟨by first | rfl | (simp; done) | (simp [*]; done), by first | exact HB.out | exact below_alloc HB.out _ | exact below_alloc (below_alloc HB.out _) _⟩
end Go.Proofs.Ythbkncklliiooaa.Q
