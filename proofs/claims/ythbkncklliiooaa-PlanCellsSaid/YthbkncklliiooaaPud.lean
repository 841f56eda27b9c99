/-
  PlanCells, in numbers.
-/
import Derived.Test.YthbkncklliiooaaQx14
import Derived.Test.YthbkncklliiooaaPub
namespace Go.Proofs.YthbkncklliiooaaH
set_option linter.unusedVariables false
set_option linter.unusedSimpArgs false
open Go.RowKit Go.Proofs.YthbkncklliiooaaW.PrintWords Go.Proofs.YthbkncklliiooaaW.PrintLast Go.Proofs.YthbkncklliiooaaW.PrintMore Go.Proofs.Ythbkncklliiooaa.Q

theorem ref_reserved_f (c : Cf) (a b : Int) : stepstoneref04_Reserved.f c.th c.sl c.cp c.he c.ke c.ev c.la a b = some (c.res a b) := by
  unfold stepstoneref04_Reserved.f Cf.res
  rw [ref_right_f, Option.bind_some]
  by_cases h : c.Ok
  · obtain ⟨h1, h2, h3, h4, -⟩ := id h
    rw [if_pos (by simpa using h)]
    by_cases ha : 0 ≤ a ∧ a < c.th
    · rw [if_neg (by omega), if_neg (by omega)]
      by_cases hb : 0 ≤ b ∧ b < c.sl
      · have hm := mul_bounds (a := a) (b := c.sl) (m := 7) (n := 8) (by omega) (by omega) (by omega) h4
        rw [if_neg (by omega), if_neg (by omega), if_pos ⟨h, ha, hb⟩, w64 (x := a * c.sl) (by omega) (by omega), w64 (x := 1 + a * c.sl) (by omega) (by omega), w64 (by omega) (by omega)]
      · rw [if_neg (c := c.Ok ∧ _) (fun k => hb k.2.2)]
        by_cases hb0 : b < 0
        · rw [if_pos hb0]
        · rw [if_neg hb0, if_pos (by omega)]
    · rw [if_neg (c := c.Ok ∧ _) (fun k => ha k.2.1)]
      by_cases ha0 : a < 0
      · rw [if_pos ha0]
      · rw [if_neg ha0, if_pos (by omega)]
  · rw [if_neg (by simpa using h), if_neg (fun k => h k.1)]

theorem ref_cell_f (c : Cf) (a b : Int) : stepstoneref04_Cell.f c.th c.sl c.cp c.he c.ke c.ev c.la a b = some (c.cel a b) := by
  unfold stepstoneref04_Cell.f Cf.cel
  rw [ref_right_f, Option.bind_some]
  by_cases h : c.Ok
  · obtain ⟨b0, b1, b2, b3, b4, b5⟩ := c.bounds h
    have hcp : 1 ≤ c.cp ∧ c.cp ≤ 64 := ⟨h.2.2.2.2.1, h.2.2.2.2.2.1⟩
    have he : 1 ≤ c.he ∧ c.he ≤ 6 := ⟨h.2.2.2.2.2.2.1, h.2.2.2.2.2.2.2.1⟩
    have hts := mul_bounds (a := c.th) (b := c.sl) (m := 8) (n := 8) (by have := h.1; omega) h.2.1 (by have := h.2.2.1; omega) h.2.2.2.1
    rw [if_pos (by simpa using h), w64 (x := 6 + c.he) (by omega) (by omega), w64 (x := c.th * c.sl) (by omega) (by omega), w64 (x := 1 + c.th * c.sl) (by omega) (by omega)]
    show (if a < 0 then some (-1) else if a > c.cp then some (-1) else if b < 0 then some (-1) else if b ≥ c.fields then some (-1) else some (wrap64 (wrap64 (c.first + wrap64 (a * c.fields)) + b))) = _
    by_cases ha : 0 ≤ a ∧ a ≤ c.cp
    · rw [if_neg (by omega), if_neg (by omega)]
      by_cases hb : 0 ≤ b ∧ b < c.fields
      · have hm := mul_bounds (a := a) (b := c.fields) (m := 64) (n := 12) (by omega) (by omega) (by omega) (by omega)
        rw [if_neg (by omega), if_neg (by omega), if_pos ⟨h, ha, hb⟩, w64 (x := a * c.fields) (by omega) (by omega), w64 (x := c.first + a * c.fields) (by omega) (by omega), w64 (by omega) (by omega)]
      · rw [if_neg (c := c.Ok ∧ _) (fun k => hb k.2.2)]
        by_cases hb0 : b < 0
        · rw [if_pos hb0]
        · rw [if_neg hb0, if_pos (by omega)]
    · rw [if_neg (c := c.Ok ∧ _) (fun k => ha k.2.1)]
      by_cases ha0 : a < 0
      · rw [if_pos ha0]
      · rw [if_neg ha0, if_pos (by omega)]
  · rw [if_neg (by simpa using h), if_neg (fun k => h k.1)]

theorem planCells_f (c : Cf) (a b : Int) : stepstonelaw04_PlanCells.f 3 c.th c.sl c.cp c.he c.ke c.ev c.la a b = some true := by
  unfold stepstonelaw04_PlanCells.f
  simp only [reserved_f, cell_f, ref_reserved_f, ref_cell_f, Option.bind_some, if_true, bne_self_eq_false, stepstonelaw04_PlanCells.j0, stepstonelaw04_PlanCells.j1, stepstonelaw04_alive.f, where_f, Bool.false_eq_true, if_false]
  have hx : (if c.cel a b < 0 then some true else some ((c.whr (c.cel a b)).1 == 3 && ((c.whr (c.cel a b)).2.1 == a && (c.whr (c.cel a b)).2.2 == b))) = some true := by
    by_cases h : c.cel a b < 0
    · rw [if_pos h]
    · rw [if_neg h, whr_cel c (by omega)]
      simp
  by_cases h : c.res a b ≥ 0
  · rw [if_pos h, whr_res c h]
    simp only [beq_self_eq_true, Bool.not_true, Bool.or_false, Bool.false_eq_true, if_false]
    exact hx
  · rw [if_neg h]
    exact hx

theorem planCells_walk (c : Cf) (a b : Int) (w : World) : Calls Try.prog 4 #[.agg #[.int .i64 c.th, .int .i64 c.sl, .int .i64 c.cp, .int .i64 c.he, .int .i64 c.ke, .int .i64 c.ev, .int .i64 c.la], .int .i64 a, .int .i64 b] w fun e w' => e = .returned (.bool true) ∧ Below w.heap.size w w' :=
  stepstonelaw04_PlanCells.calls 3 c.th c.sl c.cp c.he c.ke c.ev c.la a b true w (planCells_f c a b)
end Go.Proofs.YthbkncklliiooaaH
