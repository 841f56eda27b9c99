/-
  PlanWhere, in numbers.
-/
import Derived.Test.YthbkncklliiooaaQx17
import Derived.Test.YthbkncklliiooaaQx16
import Derived.Test.YthbkncklliiooaaPue
namespace Go.Proofs.YthbkncklliiooaaH
set_option linter.unusedVariables false
set_option linter.unusedSimpArgs false
open Go.RowKit Go.Proofs.YthbkncklliiooaaW.PrintWords Go.Proofs.YthbkncklliiooaaW.PrintLast Go.Proofs.YthbkncklliiooaaW.PrintMore Go.Proofs.Ythbkncklliiooaa.Q

theorem cells_nn (c : Cf) : 0 ≤ c.cells := by
  by_cases h : c.Ok
  · have := (cells_pos c).2 h
    omega
  · have : c.cells = 0 := if_neg h
    omega

theorem ref_where_f (c : Cf) (n : Int) : ∃ K, ∀ k, K ≤ k → stepstoneref04_Where.f k c.th c.sl c.cp c.he c.ke c.ev c.la n = some (c.whr n) := by
  obtain ⟨K, hK0⟩ := places_ev c
  have hK : ∀ k, K ≤ k → stepstoneref04_Places.f k c.th c.sl c.cp c.he c.ke c.ev c.la = some (c.row c.cells.toNat) := hK0
  refine ⟨K, fun k hk => ?_⟩
  have hn := cells_nn c
  unfold stepstoneref04_Where.f
  rw [hK k hk, Option.bind_some, Cf.row_len]
  unfold Cf.whr
  by_cases h0 : n < 0
  · rw [if_pos h0, if_neg (by omega)]
  · rw [if_neg h0]
    by_cases h1 : n < c.cells
    · rw [if_neg (by omega), if_pos (by omega), if_pos (by omega), if_pos ⟨by omega, h1⟩]
      obtain ⟨m, rfl⟩ := Int.eq_ofNat_of_zero_le (by omega : 0 ≤ n)
      rw [Cf.row_at c (by omega)]
      rfl
    · rw [if_pos (by omega), if_neg (by omega)]

theorem planWhere_f (c : Cf) (n : Int) : ∃ k, stepstonelaw04_PlanWhere.f k c.th c.sl c.cp c.he c.ke c.ev c.la n = some true := by
  obtain ⟨K, hK⟩ := ref_where_f c n
  refine ⟨K + 3, ?_⟩
  unfold stepstonelaw04_PlanWhere.f
  rw [where_f, Option.bind_some, hK _ (by omega), Option.bind_some]
  simp only [beq_self_eq_true, Bool.not_true, Bool.or_false, Bool.false_eq_true, if_false, len_f, Option.bind_some, stepstonelaw04_PlanWhere.j0, stepstonelaw04_alive.f, if_true]
  have hz : (c.whr n).1 ≠ 0 ↔ 0 ≤ n ∧ n < c.cells := by
    unfold Cf.whr
    by_cases h : 0 ≤ n ∧ n < c.cells
    · rw [if_pos h]
      refine ⟨fun _ => h, fun _ => ?_⟩
      unfold Cf.wh
      by_cases h0 : n = 0
      · rw [if_pos h0]; decide
      · rw [if_neg h0]
        by_cases h1 : n < c.first
        · rw [if_pos h1]; show (2 : Int) ≠ 0; decide
        · rw [if_neg h1]; show (3 : Int) ≠ 0; decide
    · rw [if_neg h]
      exact ⟨fun k => absurd rfl k, fun k => absurd k h⟩
  by_cases h0 : n ≥ 0
  · rw [if_pos h0]
    have e1 : (((c.whr n).1 != 0) != decide (n < c.cells)) = false := by
      rw [bne_eq_false_iff_eq, Bool.eq_iff_iff]
      simp only [bne_iff_ne, decide_eq_true_eq]
      rw [hz]
      exact ⟨fun k => k.2, fun k => ⟨h0, k⟩⟩
    rw [e1]
    simp only [Bool.false_eq_true, if_false]
    by_cases h1 : n < c.cells
    · have ho : c.Ok := (cells_pos c).1 (by omega)
      have ew : c.whr n = c.wh n := if_pos ⟨h0, h1⟩
      rw [ew]
      rcases wh_back c ho h0 h1 with ⟨rfl, e⟩ | ⟨a, b, e, he⟩ | ⟨a, b, e, he⟩
      · rw [e]; simp
      · rw [e]
        simp only [reserved_f, Option.bind_some, he]
        simp
      · rw [e]
        simp only [cell_f, Option.bind_some, he]
        simp
    · have ew : c.whr n = (0, 0, 0) := if_neg (fun k => h1 k.2)
      rw [ew]; simp
  · rw [if_neg h0]
    have ew : c.whr n = (0, 0, 0) := if_neg (fun k => h0 k.1)
    rw [ew]; simp

theorem planWhere_walk (c : Cf) (n : Int) (w : World) : Calls Try.prog 5 #[.agg #[.int .i64 c.th, .int .i64 c.sl, .int .i64 c.cp, .int .i64 c.he, .int .i64 c.ke, .int .i64 c.ev, .int .i64 c.la], .int .i64 n] w fun e w' => e = .returned (.bool true) ∧ Below w.heap.size w w' := by
  obtain ⟨k, hk⟩ := planWhere_f c n
  exact stepstonelaw04_PlanWhere.calls k c.th c.sl c.cp c.he c.ke c.ev c.la n true w hk
end Go.Proofs.YthbkncklliiooaaH
