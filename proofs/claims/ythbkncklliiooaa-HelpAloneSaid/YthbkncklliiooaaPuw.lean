/-
  What the printed functions of the layer plan compute: reservations, and what cells are.
-/
import Derived.Test.YthbkncklliiooaaQx5
import Derived.Test.YthbkncklliiooaaQx7
import Derived.Test.YthbkncklliiooaaPua
namespace Go.Proofs.YthbkncklliiooaaH
set_option linter.unusedVariables false
set_option linter.unusedSimpArgs false
open Go.RowKit Go.Proofs.YthbkncklliiooaaW.PrintWords Go.Proofs.YthbkncklliiooaaW.PrintLast Go.Proofs.YthbkncklliiooaaW.PrintMore Go.Proofs.Ythbkncklliiooaa.Q

theorem reserved_f (c : Cf) (a b : Int) : plan_Reserved.f c.th c.sl c.cp c.he c.ke c.ev c.la a b = some (c.res a b) := by
  unfold plan_Reserved.f Cf.res
  rw [right_f, Option.bind_some]
  by_cases h : c.Ok
  · obtain ⟨h1, h2, h3, h4, -⟩ := id h
    rw [if_pos (by simpa using h), within_f, Option.bind_some, w64 (x := c.th - 1) (by omega) (by omega), w64 (x := c.sl - 1) (by omega) (by omega)]
    by_cases ha : 0 ≤ a ∧ a < c.th
    · rw [if_pos (by simp only [decide_eq_true_eq]; omega), within_f, Option.bind_some]
      by_cases hb : 0 ≤ b ∧ b < c.sl
      · have hm := mul_bounds (a := a) (b := c.sl) (m := 7) (n := 8) (by omega) (by omega) (by omega) h4
        rw [if_pos (by simp only [decide_eq_true_eq]; omega), if_pos ⟨h, ha, hb⟩, w64 (x := a * c.sl) (by omega) (by omega), w64 (x := 1 + a * c.sl) (by omega) (by omega), w64 (by omega) (by omega)]
      · rw [if_neg (by simp only [decide_eq_true_eq]; omega), if_neg (fun k => hb k.2.2)]
    · rw [if_neg (by simp only [decide_eq_true_eq]; omega), if_neg (fun k => ha k.2.1)]
  · rw [if_neg (by simpa using h), if_neg (fun k => h k.1)]

theorem where_f (c : Cf) (n : Int) : plan_Where.f c.th c.sl c.cp c.he c.ke c.ev c.la n = some (c.whr n) := by
  unfold plan_Where.f Cf.whr
  rw [len_f, Option.bind_some, within_f, Option.bind_some]
  by_cases h : c.Ok
  · obtain ⟨b0, b1, b2, b3, b4, b5⟩ := c.bounds h
    have hsl : 1 ≤ c.sl := h.2.2.1
    have hcl : c.cells = c.first + (c.cp + 1) * c.fields := if_pos h
    rw [w64 (x := c.cells - 1) (by omega) (by omega)]
    by_cases hn : 0 ≤ n ∧ n < c.cells
    · rw [if_pos (by simp only [decide_eq_true_eq]; omega), first_f c h, Option.bind_some, if_pos hn]
      unfold Cf.wh
      by_cases h0 : n = 0
      · rw [if_pos h0, if_pos h0]
      · rw [if_neg h0, if_neg h0, w64 (x := n - c.first) (by omega) (by omega)]
        by_cases hl : n < c.first
        · have e1 : Int.tdiv (n - 1) c.sl = (n - 1) / c.sl := Int.tdiv_eq_ediv_of_nonneg (by omega)
          have e2 : Int.tmod (n - 1) c.sl = (n - 1) % c.sl := Int.tmod_eq_emod_of_nonneg (by omega)
          have q0 : 0 ≤ (n - 1) / c.sl := Int.ediv_nonneg (by omega) (by omega)
          have q1 : (n - 1) / c.sl ≤ n - 1 := Int.ediv_le_self _ (by omega)
          rw [if_pos (by omega), if_pos hl, if_neg (by omega), w64 (x := n - 1) (by omega) (by omega), e1, e2, w64 (by omega) (by omega)]
        · have e1 : Int.tdiv (n - c.first) c.fields = (n - c.first) / c.fields := Int.tdiv_eq_ediv_of_nonneg (by omega)
          have e2 : Int.tmod (n - c.first) c.fields = (n - c.first) % c.fields := Int.tmod_eq_emod_of_nonneg (by omega)
          have q0 : 0 ≤ (n - c.first) / c.fields := Int.ediv_nonneg (by omega) (by omega)
          have q1 : (n - c.first) / c.fields ≤ n - c.first := Int.ediv_le_self _ (by omega)
          rw [if_neg (by omega), if_neg hl, fields_f c h, Option.bind_some, if_neg (by omega), Option.bind_some, if_neg (by omega), e1, e2, w64 (by omega) (by omega)]
    · rw [if_neg (by simp only [decide_eq_true_eq]; omega), if_neg hn]
  · have hcl : c.cells = 0 := if_neg h
    rw [hcl, w64 (by omega) (by omega), if_neg (by simp only [decide_eq_true_eq]; omega), if_neg (by omega)]

end Go.Proofs.YthbkncklliiooaaH
