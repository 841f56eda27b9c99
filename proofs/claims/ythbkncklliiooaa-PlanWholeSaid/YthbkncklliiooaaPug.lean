/-
  PlanWhole, in numbers.
-/
import Derived.Test.YthbkncklliiooaaQx19
import Derived.Test.YthbkncklliiooaaPue
namespace Go.Proofs.YthbkncklliiooaaH
set_option linter.unusedVariables false
set_option linter.unusedSimpArgs false
open Go.RowKit Go.Proofs.YthbkncklliiooaaW.PrintWords Go.Proofs.YthbkncklliiooaaW.PrintLast Go.Proofs.YthbkncklliiooaaW.PrintMore Go.Proofs.Ythbkncklliiooaa.Q

theorem planWhole_l0 (c : Cf) (d : Nat) : ∀ (n k : Nat), (n : Int) + d = c.cells → d < k → stepstonelaw04_PlanWhole.l0 k (c.row c.cells.toNat) c.cells n c.th c.sl c.cp c.he c.ke c.ev c.la = some true := by
  induction d with
  | zero =>
    intro n k hd hk
    obtain ⟨k, rfl⟩ : ∃ m, k = m + 1 := ⟨k - 1, by omega⟩
    rw [stepstonelaw04_PlanWhole.l0, if_neg (by omega)]
    rfl
  | succ d ih =>
    intro n k hd hk
    obtain ⟨k, rfl⟩ : ∃ m, k = m + 1 := ⟨k - 1, by omega⟩
    have hb : c.cells ≤ 1000 := by
      by_cases h : c.Ok
      · obtain ⟨b0, b1, b2, b3, b4, b5⟩ := c.bounds h
        have := c.cells_ok h
        omega
      · have : c.cells = 0 := if_neg h
        omega
    have ew : c.whr n = c.wh n := if_pos ⟨by omega, by omega⟩
    rw [stepstonelaw04_PlanWhole.l0, if_pos (by omega), if_pos (by omega), if_pos (by rw [Cf.row_len]; omega), where_f, Option.bind_some, Cf.row_at c (by omega), ew]
    unfold Cf.pl
    simp only [beq_self_eq_true, Bool.not_true, Bool.or_false, Bool.false_eq_true, if_false]
    rw [w64 (x := (n : Int) + 1) (by omega) (by omega)]
    exact ih (n + 1) k (by omega) (by omega)

theorem planWhole_f (c : Cf) : ∃ k, stepstonelaw04_PlanWhole.f k c.th c.sl c.cp c.he c.ke c.ev c.la = some true := by
  obtain ⟨K, hK0⟩ := places_ev c
  have hK : ∀ k, K ≤ k → stepstoneref04_Places.f k c.th c.sl c.cp c.he c.ke c.ev c.la = some (c.row c.cells.toNat) := hK0
  have hn : 0 ≤ c.cells := by
    by_cases h : c.Ok
    · have := (cells_pos c).2 h
      omega
    · have : c.cells = 0 := if_neg h
      omega
  refine ⟨K + c.cells.toNat + 1, ?_⟩
  unfold stepstonelaw04_PlanWhole.f
  have e : (((c.row c.cells.toNat).length : Nat) : Int) = c.cells := by rw [Cf.row_len]; omega
  rw [hK _ (by omega), Option.bind_some, len_f, Option.bind_some, e, if_pos rfl]
  exact planWhole_l0 c c.cells.toNat 0 _ (by omega) (by omega)

theorem planWhole_walk (c : Cf) (w : World) : Calls Try.prog 7 #[.agg #[.int .i64 c.th, .int .i64 c.sl, .int .i64 c.cp, .int .i64 c.he, .int .i64 c.ke, .int .i64 c.ev, .int .i64 c.la]] w fun e w' => e = .returned (.bool true) ∧ Below w.heap.size w w' := by
  obtain ⟨k, hk⟩ := planWhole_f c
  exact stepstonelaw04_PlanWhole.calls k c.th c.sl c.cp c.he c.ke c.ev c.la true w hk
end Go.Proofs.YthbkncklliiooaaH
