-- PRINTED by print.py (a twelfth state) out of the translation. Not trusted: Lean checks it.
import Derived.Test.YthbkncklliiooaaQx0
import Derived.Test.YthbkncklliiooaaHq
import Derived.Test.YthbkncklliiooaaQx2
import Derived.Test.YthbkncklliiooaaQx3
import Derived.Test.YthbkncklliiooaaQx6
import Derived.Test.YthbkncklliiooaaQx7
import Derived.Test.YthbkncklliiooaaQx8
import Derived.Test.YthbkncklliiooaaQx9
import Derived.Test.YthbkncklliiooaaQx16
namespace Go.Proofs.Ythbkncklliiooaa.Q
open Go.RowKit Go.Proofs.YthbkncklliiooaaW.PrintWords Go.Proofs.YthbkncklliiooaaW.PrintLast Go.Proofs.YthbkncklliiooaaW.PrintMore
attribute [local go_sem] max2_int min2_int max_two min_two max_three min_three max_four min_four   -- for this text's walks alone
set_option linter.unusedVariables false
set_option linter.unusedSimpArgs false

attribute [local go_sem high] eqA29 eqA32
/-! ### stepstonelaw04_PlanWhere: function 5 -/
def stepstonelaw04_PlanWhere.j0 : Nat → Int → Bool → Int → Int → Int → Int → Int → Int → Int → Int → Int → Int → Option (Bool)
  | 0, _, _, _, _, _, _, _, _, _, _, _, _ => none
  | k + 1, x1, x27, x182000, x182001, x182002, x182003, x182004, x182005, x182006, x186000, x186001, x186002 => if x27 = true then (some false) else (if x186000 = 1 then ((stepstonelaw04_alive.f).bind fun t190 => (if t190 = true then (some (x1 == 0)) else (some false))) else (if x186000 = 2 then ((stepstonelaw04_alive.f).bind fun t191 => (if t191 = true then ((plan_Reserved.f x182000 x182001 x182002 x182003 x182004 x182005 x182006 x186001 x186002).bind fun t192 => (some (t192 == x1))) else (some false))) else (if x186000 = 3 then ((stepstonelaw04_alive.f).bind fun t193 => (if t193 = true then ((plan_Cell.f k x182000 x182001 x182002 x182003 x182004 x182005 x182006 x186001 x186002).bind fun t194 => (some (t194 == x1))) else (some false))) else ((stepstonelaw04_alive.f).bind fun t195 => (if t195 = true then (some (x186000 == 0 && (x186001 == 0 && (x186002 == 0)))) else (some false))))))
def stepstonelaw04_PlanWhere.f (k : Nat) (a0_0 : Int) (a0_1 : Int) (a0_2 : Int) (a0_3 : Int) (a0_4 : Int) (a0_5 : Int) (a0_6 : Int) (a1 : Int) : Option (Bool) := (plan_Where.f a0_0 a0_1 a0_2 a0_3 a0_4 a0_5 a0_6 a1).bind fun bt182 => ((stepstoneref04_Where.f k a0_0 a0_1 a0_2 a0_3 a0_4 a0_5 a0_6 a1).bind fun bt186 => (if (!(bt182.1 == bt186.1) || (!(bt182.2.1 == bt186.2.1) || (!(bt182.2.2 == bt186.2.2)))) = true then (stepstonelaw04_PlanWhere.j0 k a1 true a0_0 a0_1 a0_2 a0_3 a0_4 a0_5 a0_6 bt182.1 bt182.2.1 bt182.2.2) else (if a1 ≥ 0 then ((plan_Len.f a0_0 a0_1 a0_2 a0_3 a0_4 a0_5 a0_6).bind fun t189 => (stepstonelaw04_PlanWhere.j0 k a1 ((bt182.1 != 0) != (decide (a1 < t189))) a0_0 a0_1 a0_2 a0_3 a0_4 a0_5 a0_6 bt182.1 bt182.2.1 bt182.2.2)) else (stepstonelaw04_PlanWhere.j0 k a1 ((bt182.1 != 0) != false) a0_0 a0_1 a0_2 a0_3 a0_4 a0_5 a0_6 bt182.1 bt182.2.1 bt182.2.2))))
theorem stepstonelaw04_PlanWhere.mono_l : ∀ k, (∀ y0 y1 y2 y3 y4 y5 y6 y7 y8 y9 y10 y11, LeO (stepstonelaw04_PlanWhere.j0 k y0 y1 y2 y3 y4 y5 y6 y7 y8 y9 y10 y11) (stepstonelaw04_PlanWhere.j0 (k + 1) y0 y1 y2 y3 y4 y5 y6 y7 y8 y9 y10 y11))
  | 0 => fun _ _ _ _ _ _ _ _ _ _ _ _ r h => by simp [stepstonelaw04_PlanWhere.j0] at h
  | k + 1 => by
    have ih0 := stepstonelaw04_PlanWhere.mono_l k
    · intro y0 y1 y2 y3 y4 y5 y6 y7 y8 y9 y10 y11
      unfold stepstonelaw04_PlanWhere.j0
      repeat' first
      | (with_reducible exact ih0 _ _ _ _ _ _ _ _ _ _ _ _)
      | (with_reducible exact plan_Cell.mono _ _ _ _ _ _ _ _ _ _)
      | (with_reducible exact stepstoneref04_Where.mono _ _ _ _ _ _ _ _ _)
      | (with_reducible exact LeO.refl _)
      | (with_reducible exact LeO.none _)
      | (with_reducible refine LeO.ite ?_ ?_)
      | (with_reducible refine LeO.bind ?_ (fun _ => ?_))
      | exact ih0 _ _ _ _ _ _ _ _ _ _ _ _
      | exact plan_Cell.mono _ _ _ _ _ _ _ _ _ _
      | exact stepstoneref04_Where.mono _ _ _ _ _ _ _ _ _
      | exact LeO.none _
      | refine LeO.ite ?_ ?_
      | refine LeO.bind ?_ (fun _ => ?_)
theorem stepstonelaw04_PlanWhere.mono : ∀ a0 a1 a2 a3 a4 a5 a6 a7 k, LeO (stepstonelaw04_PlanWhere.f k a0 a1 a2 a3 a4 a5 a6 a7) (stepstonelaw04_PlanWhere.f (k + 1) a0 a1 a2 a3 a4 a5 a6 a7) := by
  intro a0 a1 a2 a3 a4 a5 a6 a7 k
  have ih0 := stepstonelaw04_PlanWhere.mono_l k
  unfold stepstonelaw04_PlanWhere.f
  repeat' first
      | (with_reducible exact ih0 _ _ _ _ _ _ _ _ _ _ _ _)
      | (with_reducible exact plan_Cell.mono _ _ _ _ _ _ _ _ _ _)
      | (with_reducible exact stepstoneref04_Where.mono _ _ _ _ _ _ _ _ _)
      | (with_reducible exact LeO.refl _)
      | (with_reducible exact LeO.none _)
      | (with_reducible refine LeO.ite ?_ ?_)
      | (with_reducible refine LeO.bind ?_ (fun _ => ?_))
      | exact ih0 _ _ _ _ _ _ _ _ _ _ _ _
      | exact plan_Cell.mono _ _ _ _ _ _ _ _ _ _
      | exact stepstoneref04_Where.mono _ _ _ _ _ _ _ _ _
      | exact LeO.none _
      | refine LeO.ite ?_ ?_
      | refine LeO.bind ?_ (fun _ => ?_)
def stepstonelaw04_PlanWhere.T2 : Bool × List (List Nat × List Nat) := (true, [([], []), ([], []), ([], []), ([1, 2], [1, 2]), ([0, 3], [0, 3]), ([4, 3], [4]), ([5], [5]), ([6, 5], [5, 6]), ([7, 5], [5, 7]), ([5], [5]), ([9, 5], [5, 9]), ([10, 5, 5], [5, 10]), ([11], [11]), ([11], [11]), ([13, 11, 11], [11, 13]), ([12, 14, 11], [11, 12, 14]), ([11, 15, 5], [5, 11, 15]), ([8, 16, 5], [5, 8, 16]), ([5, 17], [5, 17])])
def stepstonelaw04_PlanWhere.B2 : List Nat := [0, 0, 0, 6, 15, 31, 63, 127, 255, 63, 575, 1599, 3647, 3647, 11839, 32319, 65087, 131071, 262143]
theorem stepstonelaw04_PlanWhere.tab2 : rtab .any (opsOf Try.f5 2) = stepstonelaw04_PlanWhere.T2 := by kernel_rfl
theorem stepstonelaw04_PlanWhere.bits2 : waitsOk stepstonelaw04_PlanWhere.T2.2 stepstonelaw04_PlanWhere.B2 = true := by kernel_rfl
set_option maxHeartbeats 8000000 in
set_option maxRecDepth 100000 in
theorem stepstonelaw04_PlanWhere.calls (k : Nat) (a0_0 : Int) (a0_1 : Int) (a0_2 : Int) (a0_3 : Int) (a0_4 : Int) (a0_5 : Int) (a0_6 : Int) (a1 : Int) (r : Bool) (w : World) (h : stepstonelaw04_PlanWhere.f k a0_0 a0_1 a0_2 a0_3 a0_4 a0_5 a0_6 a1 = some r) :
    Calls Try.prog 5 #[.agg #[.int .i64 a0_0, .int .i64 a0_1, .int .i64 a0_2, .int .i64 a0_3, .int .i64 a0_4, .int .i64 a0_5, .int .i64 a0_6], .int .i64 a1] w fun e w' => e = .returned (.bool r) ∧ Below w.heap.size w w' := by
  have hu23 := Try.underlying23
  have hu29 := Try.underlying29
  have HB := Aside0.mk (Below.refl w.heap.size w)
  have H : ((plan_Where.f a0_0 a0_1 a0_2 a0_3 a0_4 a0_5 a0_6 a1).bind fun bt182 => ((stepstoneref04_Where.f k a0_0 a0_1 a0_2 a0_3 a0_4 a0_5 a0_6 a1).bind fun bt186 => (if (!(bt182.1 == bt186.1) || (!(bt182.2.1 == bt186.2.1) || (!(bt182.2.2 == bt186.2.2)))) = true then (stepstonelaw04_PlanWhere.j0 k a1 true a0_0 a0_1 a0_2 a0_3 a0_4 a0_5 a0_6 bt182.1 bt182.2.1 bt182.2.2) else (if a1 ≥ 0 then ((plan_Len.f a0_0 a0_1 a0_2 a0_3 a0_4 a0_5 a0_6).bind fun t189 => (stepstonelaw04_PlanWhere.j0 k a1 ((bt182.1 != 0) != (decide (a1 < t189))) a0_0 a0_1 a0_2 a0_3 a0_4 a0_5 a0_6 bt182.1 bt182.2.1 bt182.2.2)) else (stepstonelaw04_PlanWhere.j0 k a1 ((bt182.1 != 0) != false) a0_0 a0_1 a0_2 a0_3 a0_4 a0_5 a0_6 bt182.1 bt182.2.1 bt182.2.2))))) = some r := h
  clear h
  replace H := Option.bind_eq_some_iff.mp H
  obtain ⟨⟨t182, t183, t184⟩, A30, H⟩ := H
  replace H : ((stepstoneref04_Where.f k a0_0 a0_1 a0_2 a0_3 a0_4 a0_5 a0_6 a1).bind fun bt186 => (if (!(t182 == bt186.1) || (!(t183 == bt186.2.1) || (!(t184 == bt186.2.2)))) = true then (stepstonelaw04_PlanWhere.j0 k a1 true a0_0 a0_1 a0_2 a0_3 a0_4 a0_5 a0_6 t182 t183 t184) else (if a1 ≥ 0 then ((plan_Len.f a0_0 a0_1 a0_2 a0_3 a0_4 a0_5 a0_6).bind fun t189 => (stepstonelaw04_PlanWhere.j0 k a1 ((t182 != 0) != (decide (a1 < t189))) a0_0 a0_1 a0_2 a0_3 a0_4 a0_5 a0_6 t182 t183 t184)) else (stepstonelaw04_PlanWhere.j0 k a1 ((t182 != 0) != false) a0_0 a0_1 a0_2 a0_3 a0_4 a0_5 a0_6 t182 t183 t184)))) = some r := H
  have A3 := Aside0.mk A30
  clear A30
  have HC4 := Aside0.mk H
  clear H
  go_enter Try.func5, Try.ntmps5
  go_upto_region 2 with (first | ((with_reducible refine gate_dst (N := 2) rfl ?_); refine box_event ?hg (N := 2) ?hd (cs := #[.int .i64 a0_0, .int .i64 a0_1, .int .i64 a0_2, .int .i64 a0_3, .int .i64 a0_4, .int .i64 a0_5, .int .i64 a0_6]) (t := 23) ?hr ?_; (case hd => rfl); (case hg => rfl); (case hr => first | (go_simp; done) | (go_simp; rfl)); intro gb181 hg w5 hbox hb; have n0_ := Aside0.mk (below_step (by repeat (first | (with_reducible first | exact HB.out | apply below_alloc | apply pw_below_drewN | apply below_drew1) | exact HB.out)) hb); have n1_ := Aside0.mk (hbox); have n2_ := Aside0.mk ((by rw [hg]; exact (below_size (by repeat (first | (with_reducible first | exact HB.out | apply below_alloc | apply pw_below_drewN | apply below_drew1) | exact HB.out))) : w.heap.size ≤ gb181)); have n3_ := Aside0.mk ((by rw [hg]; exact (below_size (by repeat (first | (with_reducible first | exact HB.out | apply below_alloc | apply pw_below_drewN | apply below_drew1) | exact HB.out))) : w.heap.size ≤ gb181)); clear HB; have HB := n0_; have BK181 := n1_; have GW181 := n2_; have GE181 := n3_; clear n0_ n1_ n2_ n3_; clear hb hbox hg; have hcz6_0 : w5.cell? ⟨gb181, 0, none⟩ = some (.int .i64 a0_0) := (blk_cell BK181.out 0).trans rfl; have hcz6_1 : w5.cell? ⟨gb181, 1, none⟩ = some (.int .i64 a0_1) := (blk_cell BK181.out 1).trans rfl; have hcz6_2 : w5.cell? ⟨gb181, 2, none⟩ = some (.int .i64 a0_2) := (blk_cell BK181.out 2).trans rfl; have hcz6_3 : w5.cell? ⟨gb181, 3, none⟩ = some (.int .i64 a0_3) := (blk_cell BK181.out 3).trans rfl; have hcz6_4 : w5.cell? ⟨gb181, 4, none⟩ = some (.int .i64 a0_4) := (blk_cell BK181.out 4).trans rfl; have hcz6_5 : w5.cell? ⟨gb181, 5, none⟩ = some (.int .i64 a0_5) := (blk_cell BK181.out 5).trans rfl; have hcz6_6 : w5.cell? ⟨gb181, 6, none⟩ = some (.int .i64 a0_6) := (blk_cell BK181.out 6).trans rfl; have hfz6_0 := blk_frozen BK181.out 0; have hfz6_1 := blk_frozen BK181.out 1; have hfz6_2 := blk_frozen BK181.out 2; have hfz6_3 := blk_frozen BK181.out 3; have hfz6_4 := blk_frozen BK181.out 4; have hfz6_5 := blk_frozen BK181.out 5; have hfz6_6 := blk_frozen BK181.out 6) | ((with_reducible refine gate_callee (f := 24) rfl ?_); refine goesL_ (some 8) rfl rfl Try.func24 (by kernel_rfl) rfl #[.agg #[.int .i64 a0_0, .int .i64 a0_1, .int .i64 a0_2, .int .i64 a0_3, .int .i64 a0_4, .int .i64 a0_5, .int .i64 a0_6], .int .i64 a1] rfl (by (try simp only [List.map_toArray, List.map_cons, List.map_nil]); first | done | rfl | (simp only [List.length_drop, List.length_take]; rfl)) ?_; (with_reducible refine (plan_Where.calls a0_0 a0_1 a0_2 a0_3 a0_4 a0_5 a0_6 a1 t182 t183 t184 _ A3.out).mono ?_); rintro e w7 ⟨rfl, hb⟩; refine ⟨_, rfl, ?_⟩; have n0_ := Aside0.mk (blk_below (g := gb181) (o := .cells #[.int .i64 a0_0, .int .i64 a0_1, .int .i64 a0_2, .int .i64 a0_3, .int .i64 a0_4, .int .i64 a0_5, .int .i64 a0_6] 23 (0, 0)) (by (with_reducible repeat (first | refine blk_drewN ?_ _ | refine blk_drew ?_ | refine blk_alloc ?_ _)); exact BK181.out) hb); have n1_ := Aside0.mk (below_step (by repeat (first | (with_reducible first | exact HB.out | apply below_alloc | apply pw_below_drewN | apply below_drew1 | refine below_set ?_ GE181.out) | exact HB.out)) hb); clear BK181; clear HB; have BK181 := n0_; have HB := n1_; clear n0_ n1_; (try clear hb); (try clear hb2); (try clear hk); (try clear hi)) | ((with_reducible refine gate_dst (N := 5) rfl ?_); refine box_event ?hg (N := 5) ?hd (cs := #[.int .i64 0, .int .i64 0, .int .i64 0]) (t := 29) ?hr ?_; (case hd => rfl); (case hg => rfl); (case hr => first | (go_simp; done) | (go_simp; rfl)); intro gb185 hg w8 hbox hb; have n0_ := Aside0.mk (blk_below (g := gb181) (o := .cells #[.int .i64 a0_0, .int .i64 a0_1, .int .i64 a0_2, .int .i64 a0_3, .int .i64 a0_4, .int .i64 a0_5, .int .i64 a0_6] 23 (0, 0)) (by (with_reducible repeat (first | refine blk_drewN ?_ _ | refine blk_drew ?_ | refine blk_alloc ?_ _)); exact BK181.out) hb); have n1_ := Aside0.mk (below_step (by repeat (first | (with_reducible first | exact HB.out | apply below_alloc | apply pw_below_drewN | apply below_drew1 | refine below_set ?_ GE181.out) | exact HB.out)) hb); have n2_ := Aside0.mk (hbox); have n3_ := Aside0.mk ((by rw [hg]; exact (below_size (by repeat (first | (with_reducible first | exact HB.out | apply below_alloc | apply pw_below_drewN | apply below_drew1 | refine below_set ?_ GE181.out) | exact HB.out))) : w.heap.size ≤ gb185)); have n4_ := Aside0.mk ((by rw [hg]; exact (below_size (by repeat (first | (with_reducible first | exact HB.out | apply below_alloc | apply pw_below_drewN | apply below_drew1 | refine below_set ?_ GE181.out) | exact HB.out))) : w.heap.size ≤ gb185)); have n5_ := Aside0.mk ((by rw [hg]; exact Nat.ne_of_lt (blk_lt (g := gb181) (o := .cells #[.int .i64 a0_0, .int .i64 a0_1, .int .i64 a0_2, .int .i64 a0_3, .int .i64 a0_4, .int .i64 a0_5, .int .i64 a0_6] 23 (0, 0)) (by (with_reducible repeat (first | refine blk_drewN ?_ _ | refine blk_drew ?_ | refine blk_alloc ?_ _)); exact BK181.out)) : gb181 ≠ gb185)); have n6_ := Aside0.mk ((by rw [hg]; exact Nat.ne_of_gt (blk_lt (g := gb181) (o := .cells #[.int .i64 a0_0, .int .i64 a0_1, .int .i64 a0_2, .int .i64 a0_3, .int .i64 a0_4, .int .i64 a0_5, .int .i64 a0_6] 23 (0, 0)) (by (with_reducible repeat (first | refine blk_drewN ?_ _ | refine blk_drew ?_ | refine blk_alloc ?_ _)); exact BK181.out)) : gb185 ≠ gb181)); clear BK181; clear HB; have BK181 := n0_; have HB := n1_; have BK185 := n2_; have GW185 := n3_; have GE185 := n4_; have NB181_185 := n5_; have NB185_181 := n6_; clear n0_ n1_ n2_ n3_ n4_ n5_ n6_; clear hb hbox hg; have hnb9 := NB185_181.out; have hnc9 := NB181_185.out; have hcz10_0 : w8.cell? ⟨gb185, 0, none⟩ = some (.int .i64 0) := (blk_cell BK185.out 0).trans rfl; have hcz10_1 : w8.cell? ⟨gb185, 1, none⟩ = some (.int .i64 0) := (blk_cell BK185.out 1).trans rfl; have hcz10_2 : w8.cell? ⟨gb185, 2, none⟩ = some (.int .i64 0) := (blk_cell BK185.out 2).trans rfl; have hfz10_0 := blk_frozen BK185.out 0; have hfz10_1 := blk_frozen BK185.out 1; have hfz10_2 := blk_frozen BK185.out 2))
  (try simp only [Act.put, List.setIfInBounds_toArray, List.set_cons_zero, List.set_cons_succ])
  go_cut [27] (fun v27 wc => ∃ (kq : Nat) (x27_3 : Bool), v27 = .bool x27_3 ∧ Aside0 (stepstonelaw04_PlanWhere.j0 kq a1 x27_3 a0_0 a0_1 a0_2 a0_3 a0_4 a0_5 a0_6 t182 t183 t184 = some r) ∧ Aside0 (kq ≤ k) ∧ Aside0 (wc.heap[gb181]? = some (.cells #[.int .i64 a0_0, .int .i64 a0_1, .int .i64 a0_2, .int .i64 a0_3, .int .i64 a0_4, .int .i64 a0_5, .int .i64 a0_6] 23 (0, 0))) ∧ Aside0 (wc.heap[gb185]? = some (.cells #[.int .i64 t182, .int .i64 t183, .int .i64 t184] 29 (0, 0))) ∧ Aside0 (Below w.heap.size w wc))
  case first =>
    have H := HC4.out
    clear HC4
    replace H := Option.bind_eq_some_iff.mp H
    obtain ⟨⟨t186, t187, t188⟩, A110, H⟩ := H
    replace H : (if (!(t182 == t186) || (!(t183 == t187) || (!(t184 == t188)))) = true then (stepstonelaw04_PlanWhere.j0 k a1 true a0_0 a0_1 a0_2 a0_3 a0_4 a0_5 a0_6 t182 t183 t184) else (if a1 ≥ 0 then ((plan_Len.f a0_0 a0_1 a0_2 a0_3 a0_4 a0_5 a0_6).bind fun t189 => (stepstonelaw04_PlanWhere.j0 k a1 ((t182 != 0) != (decide (a1 < t189))) a0_0 a0_1 a0_2 a0_3 a0_4 a0_5 a0_6 t182 t183 t184)) else (stepstonelaw04_PlanWhere.j0 k a1 ((t182 != 0) != false) a0_0 a0_1 a0_2 a0_3 a0_4 a0_5 a0_6 t182 t183 t184))) = some r := H
    have A11 := Aside0.mk A110
    clear A110
    by_cases c12 : (!(t182 == t186) || (!(t183 == t187) || (!(t184 == t188)))) = true
    · rw [if_pos c12] at H
      have c12b0 : (!(t182 == t186) || (!(t183 == t187) || (!(t184 == t188)))) = true := c12
      clear c12
      (first | rw [c12b0] | (simp only [i64_w, i32_w]; rw [c12b0]) | skip)
      have H' := Aside0.mk H
      clear H
      try go_wp2
      have n0_ : Aside0 ((((w8.setCell ⟨gb185, 0, none⟩ (.int .i64 t182)).setCell ⟨gb185, 1, none⟩ (.int .i64 t183)).setCell ⟨gb185, 2, none⟩ (.int .i64 t184)).heap[gb181]? = some (.cells #[.int .i64 a0_0, .int .i64 a0_1, .int .i64 a0_2, .int .i64 a0_3, .int .i64 a0_4, .int .i64 a0_5, .int .i64 a0_6] 23 (0, 0))) := ⟨by (with_reducible repeat (first | refine blk_drewN ?_ _ | refine blk_drew ?_ | refine blk_alloc ?_ _)); refine blk_far ?_ NB181_185.out _; (with_reducible repeat (first | refine blk_drewN ?_ _ | refine blk_drew ?_ | refine blk_alloc ?_ _)); refine blk_far ?_ NB181_185.out _; (with_reducible repeat (first | refine blk_drewN ?_ _ | refine blk_drew ?_ | refine blk_alloc ?_ _)); refine blk_far ?_ NB181_185.out _; (with_reducible repeat (first | refine blk_drewN ?_ _ | refine blk_drew ?_ | refine blk_alloc ?_ _)); exact BK181.out⟩
      have n1_ : Aside0 ((((w8.setCell ⟨gb185, 0, none⟩ (.int .i64 t182)).setCell ⟨gb185, 1, none⟩ (.int .i64 t183)).setCell ⟨gb185, 2, none⟩ (.int .i64 t184)).heap[gb185]? = some (.cells #[.int .i64 t182, .int .i64 t183, .int .i64 t184] 29 (0, 0))) := ⟨by (with_reducible repeat (first | refine blk_drewN ?_ _ | refine blk_drew ?_ | refine blk_alloc ?_ _)); refine blk_put (cs := #[.int .i64 t182, .int .i64 t183, .int .i64 0]) ?_ 2 _ rfl; (with_reducible repeat (first | refine blk_drewN ?_ _ | refine blk_drew ?_ | refine blk_alloc ?_ _)); refine blk_put (cs := #[.int .i64 t182, .int .i64 0, .int .i64 0]) ?_ 1 _ rfl; (with_reducible repeat (first | refine blk_drewN ?_ _ | refine blk_drew ?_ | refine blk_alloc ?_ _)); refine blk_put (cs := #[.int .i64 0, .int .i64 0, .int .i64 0]) ?_ 0 _ rfl; (with_reducible repeat (first | refine blk_drewN ?_ _ | refine blk_drew ?_ | refine blk_alloc ?_ _)); exact BK185.out⟩
      have n2_ : Aside0 (Below w.heap.size w (((w8.setCell ⟨gb185, 0, none⟩ (.int .i64 t182)).setCell ⟨gb185, 1, none⟩ (.int .i64 t183)).setCell ⟨gb185, 2, none⟩ (.int .i64 t184))) := ⟨by repeat (first | (with_reducible first | exact HB.out | apply below_alloc | apply pw_below_drewN | apply below_drew1 | refine below_set ?_ GE181.out | refine below_set ?_ GE185.out) | exact HB.out)⟩
      (try clear BK181)
      (try clear BK185)
      (try clear HB)
      generalize (((w8.setCell ⟨gb185, 0, none⟩ (.int .i64 t182)).setCell ⟨gb185, 1, none⟩ (.int .i64 t183)).setCell ⟨gb185, 2, none⟩ (.int .i64 t184)) = w13 at n0_ n1_ n2_ ⊢
      have BK181 := n0_
      have BK185 := n1_
      have HB := n2_
      clear n0_ n1_ n2_
      have n0_ := Aside0.mk (blk_drew BK181.out)
      have n1_ := Aside0.mk (blk_drew BK185.out)
      have n2_ := Aside0.mk (below_drew1 HB.out)
      clear BK181
      clear BK185
      clear HB
      have BK181 := n0_
      have BK185 := n1_
      have HB := n2_
      clear n0_ n1_ n2_
      refine start_ (n := 19) (S := fun w' => w'.cell? ⟨gb185, 0, none⟩ = some (.int .i64 t182) ∧ w'.cell? ⟨gb185, 1, none⟩ = some (.int .i64 t183) ∧ w'.cell? ⟨gb185, 2, none⟩ = some (.int .i64 t184) ∧ w'.cell? ⟨gb181, 0, none⟩ = some (.int .i64 a0_0) ∧ w'.cell? ⟨gb181, 1, none⟩ = some (.int .i64 a0_1) ∧ w'.cell? ⟨gb181, 2, none⟩ = some (.int .i64 a0_2) ∧ w'.cell? ⟨gb181, 3, none⟩ = some (.int .i64 a0_3) ∧ w'.cell? ⟨gb181, 4, none⟩ = some (.int .i64 a0_4) ∧ w'.cell? ⟨gb181, 5, none⟩ = some (.int .i64 a0_5) ∧ w'.cell? ⟨gb181, 6, none⟩ = some (.int .i64 a0_6)) (ds := []) #[false, false, false, false, false, false, false, false, false, false, false, false, false, false, false, false, false, false, false] (by kernel_rfl) rfl rfl ⟨(blk_cell BK185.out 0).trans rfl, (blk_cell BK185.out 1).trans rfl, (blk_cell BK185.out 2).trans rfl, (blk_cell BK181.out 0).trans rfl, (blk_cell BK181.out 1).trans rfl, (blk_cell BK181.out 2).trans rfl, (blk_cell BK181.out 3).trans rfl, (blk_cell BK181.out 4).trans rfl, (blk_cell BK181.out 5).trans rfl, (blk_cell BK181.out 6).trans rfl⟩ (fun hHeld => ?_); refine with_tabW stepstonelaw04_PlanWhere.tab2 stepstonelaw04_PlanWhere.bits2 (fun HT_ HW_ => ?_)
      generalize w13.drew = w14 at BK181 BK185 HB hHeld ⊢
      refine pure_ (i := 2) (N := some 11) (v := ?_) (a' := ?_) #[false, false, true, false, false, false, false, false, false, false, false, false, false, false, false, false, false, false, false] rfl rfl (any_of HT_.out (by kernel_rfl)) (fun _ _ _ h => h) (Or.inl ⟨by rfl, ?_⟩) ?_ ?_
      rotate_left
      · intro w'
        go_simp
        with_reducible rfl
      rotate_left
      · simp only [Act.put, List.setIfInBounds_toArray, List.set_cons_zero, List.set_cons_succ, i64_w, i32_w]
        rfl
      refine take_ (i := 0) (N := some 9) (v := ?_) (a' := ?_) #[true, false, true, false, false, false, false, false, false, false, false, false, false, false, false, false, false, false, false] rfl rfl (take_ofW HT_.out HW_.out (by kernel_rfl)) (fun _ _ _ h => h) (Or.inl ⟨by rfl, ?_⟩) hHeld ?_ ?_
      rotate_left
      · rintro w' ⟨s0, s1, s2, s3, s4, s5, s6, s7, s8, s9⟩
        go_simp
        with_reducible rfl
      rotate_left
      · simp only [Act.put, List.setIfInBounds_toArray, List.set_cons_zero, List.set_cons_succ, i64_w, i32_w]
        rfl
      refine take_ (i := 1) (N := some 10) (v := ?_) (a' := ?_) #[true, true, true, false, false, false, false, false, false, false, false, false, false, false, false, false, false, false, false] rfl rfl (take_ofW HT_.out HW_.out (by kernel_rfl)) (fun _ _ _ h => h) (Or.inl ⟨by rfl, ?_⟩) hHeld ?_ ?_
      rotate_left
      · rintro w' ⟨s0, s1, s2, s3, s4, s5, s6, s7, s8, s9⟩
        go_simp
        with_reducible rfl
      rotate_left
      · simp only [Act.put, List.setIfInBounds_toArray, List.set_cons_zero, List.set_cons_succ, i64_w, i32_w]
        rfl
      refine one_ (i := 3) (N := some 12) #[true, true, true, true, false, false, false, false, false, false, false, false, false, false, false, false, false, false, false] rfl rfl (one_of HT_.out (by kernel_rfl)) (by decide) (fun K hK => ?_)
      refine goes_ Try.func25 (by kernel_rfl) rfl #[.agg #[.int .i64 a0_0, .int .i64 a0_1, .int .i64 a0_2, .int .i64 a0_3, .int .i64 a0_4, .int .i64 a0_5, .int .i64 a0_6], .int .i64 a1] (by rfl) rfl rfl (by (try simp only [List.map_toArray, List.map_cons, List.map_nil]); first | done | rfl | (simp only [List.length_drop, List.length_take]; rfl)) ?_
      with_reducible refine (stepstoneref04_Where.calls k a0_0 a0_1 a0_2 a0_3 a0_4 a0_5 a0_6 a1 t186 t187 t188 _ A11.out).mono ?_
      rintro e w15 ⟨rfl, hb⟩
      refine ⟨_, rfl, ?_⟩
      have n0_ := Aside0.mk (blk_below (g := gb181) (o := .cells #[.int .i64 a0_0, .int .i64 a0_1, .int .i64 a0_2, .int .i64 a0_3, .int .i64 a0_4, .int .i64 a0_5, .int .i64 a0_6] 23 (0, 0)) (by (with_reducible repeat (first | refine blk_drewN ?_ _ | refine blk_drew ?_ | refine blk_alloc ?_ _)); exact BK181.out) hb)
      have n1_ := Aside0.mk (blk_below (g := gb185) (o := .cells #[.int .i64 t182, .int .i64 t183, .int .i64 t184] 29 (0, 0)) (by (with_reducible repeat (first | refine blk_drewN ?_ _ | refine blk_drew ?_ | refine blk_alloc ?_ _)); exact BK185.out) hb)
      have n2_ := Aside0.mk (below_step (by repeat (first | (with_reducible first | exact HB.out | apply below_alloc | apply pw_below_drewN | apply below_drew1 | refine below_set ?_ GE181.out | refine below_set ?_ GE185.out) | exact HB.out)) hb)
      clear BK181
      clear BK185
      clear HB
      have BK181 := n0_
      have BK185 := n1_
      have HB := n2_
      clear n0_ n1_ n2_
      (try clear hb)
      (try clear hb2)
      (try clear hk)
      (try clear hi)
      refine hK.out _ _ ⟨(blk_cell BK185.out 0).trans rfl, (blk_cell BK185.out 1).trans rfl, (blk_cell BK185.out 2).trans rfl, (blk_cell BK181.out 0).trans rfl, (blk_cell BK181.out 1).trans rfl, (blk_cell BK181.out 2).trans rfl, (blk_cell BK181.out 3).trans rfl, (blk_cell BK181.out 4).trans rfl, (blk_cell BK181.out 5).trans rfl, (blk_cell BK181.out 6).trans rfl⟩ (fun hHeld => ?_)
      clear hK K
      refine norm_ (a' := ?_) ?_ ?_
      rotate_left
      · show Act.put _ (some 12) _ = _
        simp only [Act.put, List.setIfInBounds_toArray, List.set_cons_zero, List.set_cons_succ, i64_w, i32_w]
        rfl
      refine pure_ (i := 4) (N := some 13) (v := ?_) (a' := ?_) #[true, true, true, true, true, false, false, false, false, false, false, false, false, false, false, false, false, false, false] rfl rfl (any_of HT_.out (by kernel_rfl)) (fun _ _ _ h => h) (Or.inl ⟨by rfl, ?_⟩) ?_ ?_
      rotate_left
      · intro w'
        go_simp
        with_reducible rfl
      rotate_left
      · simp only [Act.put, List.setIfInBounds_toArray, List.set_cons_zero, List.set_cons_succ, i64_w, i32_w]
        rfl
      refine pure_ (i := 5) (N := some 14) (v := ?_) (a' := ?_) #[true, true, true, true, true, true, false, false, false, false, false, false, false, false, false, false, false, false, false] rfl rfl (any_of HT_.out (by kernel_rfl)) (fun _ _ _ h => h) (Or.inl ⟨by rfl, ?_⟩) ?_ ?_
      rotate_left
      · intro w'
        go_simp
        with_reducible rfl
      rotate_left
      · simp only [Act.put, List.setIfInBounds_toArray, List.set_cons_zero, List.set_cons_succ, i64_w, i32_w]
        rfl
      refine pure_ (i := 6) (N := some 15) (v := undef) (a' := ?_) #[true, true, true, true, true, true, true, false, false, false, false, false, false, false, false, false, false, false, false] rfl rfl (any_of HT_.out (by kernel_rfl)) (fun _ _ _ h => h) (Or.inr ⟨by rfl, rfl⟩) ?_ ?_
      rotate_left
      · simp only [Act.put, List.setIfInBounds_toArray, List.set_cons_zero, List.set_cons_succ, i64_w, i32_w]
        rfl
      refine pure_ (i := 7) (N := some 16) (v := undef) (a' := ?_) #[true, true, true, true, true, true, true, true, false, false, false, false, false, false, false, false, false, false, false] rfl rfl (any_of HT_.out (by kernel_rfl)) (fun _ _ _ h => h) (Or.inr ⟨by rfl, rfl⟩) ?_ ?_
      rotate_left
      · simp only [Act.put, List.setIfInBounds_toArray, List.set_cons_zero, List.set_cons_succ, i64_w, i32_w]
        rfl
      refine pure_ (i := 8) (N := some 17) (v := undef) (a' := ?_) #[true, true, true, true, true, true, true, true, true, false, false, false, false, false, false, false, false, false, false] rfl rfl (any_of HT_.out (by kernel_rfl)) (fun _ _ _ h => h) (Or.inr ⟨by rfl, rfl⟩) ?_ ?_
      rotate_left
      · simp only [Act.put, List.setIfInBounds_toArray, List.set_cons_zero, List.set_cons_succ, i64_w, i32_w]
        rfl
      refine pure_ (i := 9) (N := some 18) (v := undef) (a' := ?_) #[true, true, true, true, true, true, true, true, true, true, false, false, false, false, false, false, false, false, false] rfl rfl (any_of HT_.out (by kernel_rfl)) (fun _ _ _ h => h) (Or.inr ⟨by rfl, rfl⟩) ?_ ?_
      rotate_left
      · simp only [Act.put, List.setIfInBounds_toArray, List.set_cons_zero, List.set_cons_succ, i64_w, i32_w]
        rfl
      refine pure_ (i := 10) (N := some 19) (v := undef) (a' := ?_) #[true, true, true, true, true, true, true, true, true, true, true, false, false, false, false, false, false, false, false] rfl rfl (any_of HT_.out (by kernel_rfl)) (fun _ _ _ h => h) (Or.inr ⟨by rfl, rfl⟩) ?_ ?_
      rotate_left
      · simp only [Act.put, List.setIfInBounds_toArray, List.set_cons_zero, List.set_cons_succ, i64_w, i32_w]
        rfl
      refine pure_ (i := 11) (N := some 20) (v := undef) (a' := ?_) #[true, true, true, true, true, true, true, true, true, true, true, true, false, false, false, false, false, false, false] rfl rfl (any_of HT_.out (by kernel_rfl)) (fun _ _ _ h => h) (Or.inr ⟨by rfl, rfl⟩) ?_ ?_
      rotate_left
      · simp only [Act.put, List.setIfInBounds_toArray, List.set_cons_zero, List.set_cons_succ, i64_w, i32_w]
        rfl
      refine pure_ (i := 12) (N := some 21) (v := undef) (a' := ?_) #[true, true, true, true, true, true, true, true, true, true, true, true, true, false, false, false, false, false, false] rfl rfl (any_of HT_.out (by kernel_rfl)) (fun _ _ _ h => h) (Or.inr ⟨by rfl, rfl⟩) ?_ ?_
      rotate_left
      · simp only [Act.put, List.setIfInBounds_toArray, List.set_cons_zero, List.set_cons_succ, i64_w, i32_w]
        rfl
      refine pure_ (i := 13) (N := some 22) (v := undef) (a' := ?_) #[true, true, true, true, true, true, true, true, true, true, true, true, true, true, false, false, false, false, false] rfl rfl (any_of HT_.out (by kernel_rfl)) (fun _ _ _ h => h) (Or.inr ⟨by rfl, rfl⟩) ?_ ?_
      rotate_left
      · simp only [Act.put, List.setIfInBounds_toArray, List.set_cons_zero, List.set_cons_succ, i64_w, i32_w]
        rfl
      refine pure_ (i := 14) (N := some 23) (v := undef) (a' := ?_) #[true, true, true, true, true, true, true, true, true, true, true, true, true, true, true, false, false, false, false] rfl rfl (any_of HT_.out (by kernel_rfl)) (fun _ _ _ h => h) (Or.inr ⟨by rfl, rfl⟩) ?_ ?_
      rotate_left
      · simp only [Act.put, List.setIfInBounds_toArray, List.set_cons_zero, List.set_cons_succ, i64_w, i32_w]
        rfl
      refine pure_ (i := 15) (N := some 24) (v := undef) (a' := ?_) #[true, true, true, true, true, true, true, true, true, true, true, true, true, true, true, true, false, false, false] rfl rfl (any_of HT_.out (by kernel_rfl)) (fun _ _ _ h => h) (Or.inr ⟨by rfl, rfl⟩) ?_ ?_
      rotate_left
      · simp only [Act.put, List.setIfInBounds_toArray, List.set_cons_zero, List.set_cons_succ, i64_w, i32_w]
        rfl
      refine pure_ (i := 16) (N := some 25) (v := undef) (a' := ?_) #[true, true, true, true, true, true, true, true, true, true, true, true, true, true, true, true, true, false, false] rfl rfl (any_of HT_.out (by kernel_rfl)) (fun _ _ _ h => h) (Or.inr ⟨by rfl, rfl⟩) ?_ ?_
      rotate_left
      · simp only [Act.put, List.setIfInBounds_toArray, List.set_cons_zero, List.set_cons_succ, i64_w, i32_w]
        rfl
      refine pure_ (i := 17) (N := some 26) (v := undef) (a' := ?_) #[true, true, true, true, true, true, true, true, true, true, true, true, true, true, true, true, true, true, false] rfl rfl (any_of HT_.out (by kernel_rfl)) (fun _ _ _ h => h) (Or.inr ⟨by rfl, rfl⟩) ?_ ?_
      rotate_left
      · simp only [Act.put, List.setIfInBounds_toArray, List.set_cons_zero, List.set_cons_succ, i64_w, i32_w]
        rfl
      refine pure_ (i := 18) (N := some 27) (v := ?_) (a' := ?_) #[true, true, true, true, true, true, true, true, true, true, true, true, true, true, true, true, true, true, true] rfl rfl (any_of HT_.out (by kernel_rfl)) (fun _ _ _ h => h) (Or.inl ⟨by rfl, ?_⟩) ?_ ?_
      rotate_left
      · intro w'
        go_simp
        with_reducible rfl
      rotate_left
      · simp only [Act.put, List.setIfInBounds_toArray, List.set_cons_zero, List.set_cons_succ, i64_w, i32_w]
        rfl
      refine done_ (done_of HT_.out (by kernel_rfl)) ?_
      try go_wp2
      go_meet
      case rel => exact ⟨_, (true), (by first | rfl | (simp; done) | (simp [*]; done)), H', ⟨by first | omega | exact Nat.le_refl _⟩, ⟨by (with_reducible repeat (first | refine blk_drewN ?_ _ | refine blk_drew ?_ | refine blk_alloc ?_ _)); exact BK181.out⟩, ⟨by (with_reducible repeat (first | refine blk_drewN ?_ _ | refine blk_drew ?_ | refine blk_alloc ?_ _)); exact BK185.out⟩, ⟨by repeat (first | (with_reducible first | exact HB.out | apply below_alloc | apply pw_below_drewN | apply below_drew1 | refine below_set ?_ GE181.out | refine below_set ?_ GE185.out) | exact HB.out)⟩⟩
    · rw [if_neg c12] at H
      have c12b0 : (!(t182 == t186) || (!(t183 == t187) || (!(t184 == t188)))) = false := by simpa using c12
      clear c12
      (first | rw [c12b0] | (simp only [i64_w, i32_w]; rw [c12b0]) | skip)
      by_cases c16 : a1 ≥ 0
      · rw [if_pos c16] at H
        have c16b0 : decide (0 ≤ a1) = true := decide_eq_true c16
        clear c16
        replace H := Option.bind_eq_some_iff.mp H
        obtain ⟨t189, A170, H⟩ := H
        replace H : (stepstonelaw04_PlanWhere.j0 k a1 ((t182 != 0) != (decide (a1 < t189))) a0_0 a0_1 a0_2 a0_3 a0_4 a0_5 a0_6 t182 t183 t184) = some r := H
        have A17 := Aside0.mk A170
        clear A170
        have H' := Aside0.mk H
        clear H
        try go_wp2
        have n0_ : Aside0 ((((w8.setCell ⟨gb185, 0, none⟩ (.int .i64 t182)).setCell ⟨gb185, 1, none⟩ (.int .i64 t183)).setCell ⟨gb185, 2, none⟩ (.int .i64 t184)).heap[gb181]? = some (.cells #[.int .i64 a0_0, .int .i64 a0_1, .int .i64 a0_2, .int .i64 a0_3, .int .i64 a0_4, .int .i64 a0_5, .int .i64 a0_6] 23 (0, 0))) := ⟨by (with_reducible repeat (first | refine blk_drewN ?_ _ | refine blk_drew ?_ | refine blk_alloc ?_ _)); refine blk_far ?_ NB181_185.out _; (with_reducible repeat (first | refine blk_drewN ?_ _ | refine blk_drew ?_ | refine blk_alloc ?_ _)); refine blk_far ?_ NB181_185.out _; (with_reducible repeat (first | refine blk_drewN ?_ _ | refine blk_drew ?_ | refine blk_alloc ?_ _)); refine blk_far ?_ NB181_185.out _; (with_reducible repeat (first | refine blk_drewN ?_ _ | refine blk_drew ?_ | refine blk_alloc ?_ _)); exact BK181.out⟩
        have n1_ : Aside0 ((((w8.setCell ⟨gb185, 0, none⟩ (.int .i64 t182)).setCell ⟨gb185, 1, none⟩ (.int .i64 t183)).setCell ⟨gb185, 2, none⟩ (.int .i64 t184)).heap[gb185]? = some (.cells #[.int .i64 t182, .int .i64 t183, .int .i64 t184] 29 (0, 0))) := ⟨by (with_reducible repeat (first | refine blk_drewN ?_ _ | refine blk_drew ?_ | refine blk_alloc ?_ _)); refine blk_put (cs := #[.int .i64 t182, .int .i64 t183, .int .i64 0]) ?_ 2 _ rfl; (with_reducible repeat (first | refine blk_drewN ?_ _ | refine blk_drew ?_ | refine blk_alloc ?_ _)); refine blk_put (cs := #[.int .i64 t182, .int .i64 0, .int .i64 0]) ?_ 1 _ rfl; (with_reducible repeat (first | refine blk_drewN ?_ _ | refine blk_drew ?_ | refine blk_alloc ?_ _)); refine blk_put (cs := #[.int .i64 0, .int .i64 0, .int .i64 0]) ?_ 0 _ rfl; (with_reducible repeat (first | refine blk_drewN ?_ _ | refine blk_drew ?_ | refine blk_alloc ?_ _)); exact BK185.out⟩
        have n2_ : Aside0 (Below w.heap.size w (((w8.setCell ⟨gb185, 0, none⟩ (.int .i64 t182)).setCell ⟨gb185, 1, none⟩ (.int .i64 t183)).setCell ⟨gb185, 2, none⟩ (.int .i64 t184))) := ⟨by repeat (first | (with_reducible first | exact HB.out | apply below_alloc | apply pw_below_drewN | apply below_drew1 | refine below_set ?_ GE181.out | refine below_set ?_ GE185.out) | exact HB.out)⟩
        (try clear BK181)
        (try clear BK185)
        (try clear HB)
        generalize (((w8.setCell ⟨gb185, 0, none⟩ (.int .i64 t182)).setCell ⟨gb185, 1, none⟩ (.int .i64 t183)).setCell ⟨gb185, 2, none⟩ (.int .i64 t184)) = w18 at n0_ n1_ n2_ ⊢
        have BK181 := n0_
        have BK185 := n1_
        have HB := n2_
        clear n0_ n1_ n2_
        have n0_ := Aside0.mk (blk_drew BK181.out)
        have n1_ := Aside0.mk (blk_drew BK185.out)
        have n2_ := Aside0.mk (below_drew1 HB.out)
        clear BK181
        clear BK185
        clear HB
        have BK181 := n0_
        have BK185 := n1_
        have HB := n2_
        clear n0_ n1_ n2_
        refine start_ (n := 19) (S := fun w' => w'.cell? ⟨gb185, 0, none⟩ = some (.int .i64 t182) ∧ w'.cell? ⟨gb185, 1, none⟩ = some (.int .i64 t183) ∧ w'.cell? ⟨gb185, 2, none⟩ = some (.int .i64 t184) ∧ w'.cell? ⟨gb181, 0, none⟩ = some (.int .i64 a0_0) ∧ w'.cell? ⟨gb181, 1, none⟩ = some (.int .i64 a0_1) ∧ w'.cell? ⟨gb181, 2, none⟩ = some (.int .i64 a0_2) ∧ w'.cell? ⟨gb181, 3, none⟩ = some (.int .i64 a0_3) ∧ w'.cell? ⟨gb181, 4, none⟩ = some (.int .i64 a0_4) ∧ w'.cell? ⟨gb181, 5, none⟩ = some (.int .i64 a0_5) ∧ w'.cell? ⟨gb181, 6, none⟩ = some (.int .i64 a0_6)) (ds := []) #[false, false, false, false, false, false, false, false, false, false, false, false, false, false, false, false, false, false, false] (by kernel_rfl) rfl rfl ⟨(blk_cell BK185.out 0).trans rfl, (blk_cell BK185.out 1).trans rfl, (blk_cell BK185.out 2).trans rfl, (blk_cell BK181.out 0).trans rfl, (blk_cell BK181.out 1).trans rfl, (blk_cell BK181.out 2).trans rfl, (blk_cell BK181.out 3).trans rfl, (blk_cell BK181.out 4).trans rfl, (blk_cell BK181.out 5).trans rfl, (blk_cell BK181.out 6).trans rfl⟩ (fun hHeld => ?_); refine with_tabW stepstonelaw04_PlanWhere.tab2 stepstonelaw04_PlanWhere.bits2 (fun HT_ HW_ => ?_)
        generalize w18.drew = w19 at BK181 BK185 HB hHeld ⊢
        refine pure_ (i := 2) (N := some 11) (v := ?_) (a' := ?_) #[false, false, true, false, false, false, false, false, false, false, false, false, false, false, false, false, false, false, false] rfl rfl (any_of HT_.out (by kernel_rfl)) (fun _ _ _ h => h) (Or.inl ⟨by rfl, ?_⟩) ?_ ?_
        rotate_left
        · intro w'
          go_simp
          with_reducible rfl
        rotate_left
        · simp only [Act.put, List.setIfInBounds_toArray, List.set_cons_zero, List.set_cons_succ, i64_w, i32_w]
          rfl
        refine take_ (i := 0) (N := some 9) (v := ?_) (a' := ?_) #[true, false, true, false, false, false, false, false, false, false, false, false, false, false, false, false, false, false, false] rfl rfl (take_ofW HT_.out HW_.out (by kernel_rfl)) (fun _ _ _ h => h) (Or.inl ⟨by rfl, ?_⟩) hHeld ?_ ?_
        rotate_left
        · rintro w' ⟨s0, s1, s2, s3, s4, s5, s6, s7, s8, s9⟩
          go_simp
          with_reducible rfl
        rotate_left
        · simp only [Act.put, List.setIfInBounds_toArray, List.set_cons_zero, List.set_cons_succ, i64_w, i32_w]
          rfl
        refine take_ (i := 1) (N := some 10) (v := ?_) (a' := ?_) #[true, true, true, false, false, false, false, false, false, false, false, false, false, false, false, false, false, false, false] rfl rfl (take_ofW HT_.out HW_.out (by kernel_rfl)) (fun _ _ _ h => h) (Or.inl ⟨by rfl, ?_⟩) hHeld ?_ ?_
        rotate_left
        · rintro w' ⟨s0, s1, s2, s3, s4, s5, s6, s7, s8, s9⟩
          go_simp
          with_reducible rfl
        rotate_left
        · simp only [Act.put, List.setIfInBounds_toArray, List.set_cons_zero, List.set_cons_succ, i64_w, i32_w]
          rfl
        refine one_ (i := 3) (N := some 12) #[true, true, true, true, false, false, false, false, false, false, false, false, false, false, false, false, false, false, false] rfl rfl (one_of HT_.out (by kernel_rfl)) (by decide) (fun K hK => ?_)
        refine goes_ Try.func25 (by kernel_rfl) rfl #[.agg #[.int .i64 a0_0, .int .i64 a0_1, .int .i64 a0_2, .int .i64 a0_3, .int .i64 a0_4, .int .i64 a0_5, .int .i64 a0_6], .int .i64 a1] (by rfl) rfl rfl (by (try simp only [List.map_toArray, List.map_cons, List.map_nil]); first | done | rfl | (simp only [List.length_drop, List.length_take]; rfl)) ?_
        with_reducible refine (stepstoneref04_Where.calls k a0_0 a0_1 a0_2 a0_3 a0_4 a0_5 a0_6 a1 t186 t187 t188 _ A11.out).mono ?_
        rintro e w20 ⟨rfl, hb⟩
        refine ⟨_, rfl, ?_⟩
        have n0_ := Aside0.mk (blk_below (g := gb181) (o := .cells #[.int .i64 a0_0, .int .i64 a0_1, .int .i64 a0_2, .int .i64 a0_3, .int .i64 a0_4, .int .i64 a0_5, .int .i64 a0_6] 23 (0, 0)) (by (with_reducible repeat (first | refine blk_drewN ?_ _ | refine blk_drew ?_ | refine blk_alloc ?_ _)); exact BK181.out) hb)
        have n1_ := Aside0.mk (blk_below (g := gb185) (o := .cells #[.int .i64 t182, .int .i64 t183, .int .i64 t184] 29 (0, 0)) (by (with_reducible repeat (first | refine blk_drewN ?_ _ | refine blk_drew ?_ | refine blk_alloc ?_ _)); exact BK185.out) hb)
        have n2_ := Aside0.mk (below_step (by repeat (first | (with_reducible first | exact HB.out | apply below_alloc | apply pw_below_drewN | apply below_drew1 | refine below_set ?_ GE181.out | refine below_set ?_ GE185.out) | exact HB.out)) hb)
        clear BK181
        clear BK185
        clear HB
        have BK181 := n0_
        have BK185 := n1_
        have HB := n2_
        clear n0_ n1_ n2_
        (try clear hb)
        (try clear hb2)
        (try clear hk)
        (try clear hi)
        refine hK.out _ _ ⟨(blk_cell BK185.out 0).trans rfl, (blk_cell BK185.out 1).trans rfl, (blk_cell BK185.out 2).trans rfl, (blk_cell BK181.out 0).trans rfl, (blk_cell BK181.out 1).trans rfl, (blk_cell BK181.out 2).trans rfl, (blk_cell BK181.out 3).trans rfl, (blk_cell BK181.out 4).trans rfl, (blk_cell BK181.out 5).trans rfl, (blk_cell BK181.out 6).trans rfl⟩ (fun hHeld => ?_)
        clear hK K
        refine norm_ (a' := ?_) ?_ ?_
        rotate_left
        · show Act.put _ (some 12) _ = _
          simp only [Act.put, List.setIfInBounds_toArray, List.set_cons_zero, List.set_cons_succ, i64_w, i32_w]
          rfl
        refine pure_ (i := 4) (N := some 13) (v := ?_) (a' := ?_) #[true, true, true, true, true, false, false, false, false, false, false, false, false, false, false, false, false, false, false] rfl rfl (any_of HT_.out (by kernel_rfl)) (fun _ _ _ h => h) (Or.inl ⟨by rfl, ?_⟩) ?_ ?_
        rotate_left
        · intro w'
          go_simp
          with_reducible rfl
        rotate_left
        · simp only [Act.put, List.setIfInBounds_toArray, List.set_cons_zero, List.set_cons_succ, i64_w, i32_w]
          rfl
        refine pure_ (i := 5) (N := some 14) (v := ?_) (a' := ?_) #[true, true, true, true, true, true, false, false, false, false, false, false, false, false, false, false, false, false, false] rfl rfl (any_of HT_.out (by kernel_rfl)) (fun _ _ _ h => h) (Or.inl ⟨by rfl, ?_⟩) ?_ ?_
        rotate_left
        · intro w'
          go_simp
          with_reducible rfl
        rotate_left
        · simp only [Act.put, List.setIfInBounds_toArray, List.set_cons_zero, List.set_cons_succ, i64_w, i32_w]
          rfl
        refine pure_ (i := 6) (N := some 15) (v := ?_) (a' := ?_) #[true, true, true, true, true, true, true, false, false, false, false, false, false, false, false, false, false, false, false] rfl rfl (any_of HT_.out (by kernel_rfl)) (fun _ _ _ h => h) (Or.inl ⟨by rfl, ?_⟩) ?_ ?_
        rotate_left
        · intro w'
          go_simp
          with_reducible rfl
        rotate_left
        · simp only [Act.put, List.setIfInBounds_toArray, List.set_cons_zero, List.set_cons_succ, i64_w, i32_w]
          rfl
        refine pure_ (i := 9) (N := some 18) (v := ?_) (a' := ?_) #[true, true, true, true, true, true, true, false, false, true, false, false, false, false, false, false, false, false, false] rfl rfl (any_of HT_.out (by kernel_rfl)) (fun _ _ _ h => h) (Or.inl ⟨by rfl, ?_⟩) ?_ ?_
        rotate_left
        · intro w'
          go_simp
          with_reducible rfl
        rotate_left
        · simp only [Act.put, List.setIfInBounds_toArray, List.set_cons_zero, List.set_cons_succ, i64_w, i32_w]
          rfl
        refine pure_ (i := 10) (N := some 19) (v := ?_) (a' := ?_) #[true, true, true, true, true, true, true, false, false, true, true, false, false, false, false, false, false, false, false] rfl rfl (any_of HT_.out (by kernel_rfl)) (fun _ _ _ h => h) (Or.inl ⟨by rfl, ?_⟩) ?_ ?_
        rotate_left
        · intro w'
          go_simp
          with_reducible rfl
        rotate_left
        · simp only [Act.put, List.setIfInBounds_toArray, List.set_cons_zero, List.set_cons_succ, i64_w, i32_w]
          rfl
        refine pure_ (i := 11) (N := some 20) (v := ?_) (a' := ?_) #[true, true, true, true, true, true, true, false, false, true, true, true, false, false, false, false, false, false, false] rfl rfl (any_of HT_.out (by kernel_rfl)) (fun _ _ _ h => h) (Or.inl ⟨by rfl, ?_⟩) ?_ ?_
        rotate_left
        · intro w'
          go_simp
          with_reducible rfl
        rotate_left
        · simp only [Act.put, List.setIfInBounds_toArray, List.set_cons_zero, List.set_cons_succ, i64_w, i32_w]
          rfl
        refine pure_ (i := 12) (N := some 21) (v := ?_) (a' := ?_) #[true, true, true, true, true, true, true, false, false, true, true, true, true, false, false, false, false, false, false] rfl rfl (any_of HT_.out (by kernel_rfl)) (fun _ _ _ h => h) (Or.inl ⟨by rfl, ?_⟩) ?_ ?_
        rotate_left
        · intro w'
          go_simp
          with_reducible rfl
        rotate_left
        · simp only [Act.put, List.setIfInBounds_toArray, List.set_cons_zero, List.set_cons_succ, i64_w, i32_w]
          rfl
        refine take_ (i := 7) (N := some 16) (v := ?_) (a' := ?_) #[true, true, true, true, true, true, true, true, false, true, true, true, true, false, false, false, false, false, false] rfl rfl (take_ofW HT_.out HW_.out (by kernel_rfl)) (fun _ _ _ h => h) (Or.inl ⟨by rfl, ?_⟩) hHeld ?_ ?_
        rotate_left
        · rintro w' ⟨s0, s1, s2, s3, s4, s5, s6, s7, s8, s9⟩
          go_simp
          with_reducible rfl
        rotate_left
        · simp only [Act.put, List.setIfInBounds_toArray, List.set_cons_zero, List.set_cons_succ, i64_w, i32_w]
          rfl
        refine pure_ (i := 8) (N := some 17) (v := ?_) (a' := ?_) #[true, true, true, true, true, true, true, true, true, true, true, true, true, false, false, false, false, false, false] rfl rfl (any_of HT_.out (by kernel_rfl)) (fun _ _ _ h => h) (Or.inl ⟨by rfl, ?_⟩) ?_ ?_
        rotate_left
        · intro w'
          go_simp
          with_reducible rfl
        rotate_left
        · simp only [Act.put, List.setIfInBounds_toArray, List.set_cons_zero, List.set_cons_succ, i64_w, i32_w]
          rfl
        refine take_ (i := 13) (N := some 22) (v := ?_) (a' := ?_) #[true, true, true, true, true, true, true, true, true, true, true, true, true, true, false, false, false, false, false] rfl rfl (take_ofW HT_.out HW_.out (by kernel_rfl)) (fun _ _ _ h => h) (Or.inl ⟨by rfl, ?_⟩) hHeld ?_ ?_
        rotate_left
        · rintro w' ⟨s0, s1, s2, s3, s4, s5, s6, s7, s8, s9⟩
          go_simp
          with_reducible rfl
        rotate_left
        · simp only [Act.put, List.setIfInBounds_toArray, List.set_cons_zero, List.set_cons_succ, i64_w, i32_w]
          rfl
        refine one_ (i := 14) (N := some 23) #[true, true, true, true, true, true, true, true, true, true, true, true, true, true, true, false, false, false, false] rfl rfl (one_of HT_.out (by kernel_rfl)) (by decide) (fun K hK => ?_)
        refine goes_ Try.func18 (by kernel_rfl) rfl #[.agg #[.int .i64 a0_0, .int .i64 a0_1, .int .i64 a0_2, .int .i64 a0_3, .int .i64 a0_4, .int .i64 a0_5, .int .i64 a0_6]] (by rfl) rfl rfl (by (try simp only [List.map_toArray, List.map_cons, List.map_nil]); first | done | rfl | (simp only [List.length_drop, List.length_take]; rfl)) ?_
        with_reducible refine (plan_Len.calls a0_0 a0_1 a0_2 a0_3 a0_4 a0_5 a0_6 t189 _ A17.out).mono ?_
        rintro e w21 ⟨rfl, hb⟩
        refine ⟨_, rfl, ?_⟩
        have n0_ := Aside0.mk (blk_below (g := gb181) (o := .cells #[.int .i64 a0_0, .int .i64 a0_1, .int .i64 a0_2, .int .i64 a0_3, .int .i64 a0_4, .int .i64 a0_5, .int .i64 a0_6] 23 (0, 0)) (by (with_reducible repeat (first | refine blk_drewN ?_ _ | refine blk_drew ?_ | refine blk_alloc ?_ _)); exact BK181.out) hb)
        have n1_ := Aside0.mk (blk_below (g := gb185) (o := .cells #[.int .i64 t182, .int .i64 t183, .int .i64 t184] 29 (0, 0)) (by (with_reducible repeat (first | refine blk_drewN ?_ _ | refine blk_drew ?_ | refine blk_alloc ?_ _)); exact BK185.out) hb)
        have n2_ := Aside0.mk (below_step (by repeat (first | (with_reducible first | exact HB.out | apply below_alloc | apply pw_below_drewN | apply below_drew1 | refine below_set ?_ GE181.out | refine below_set ?_ GE185.out) | exact HB.out)) hb)
        clear BK181
        clear BK185
        clear HB
        have BK181 := n0_
        have BK185 := n1_
        have HB := n2_
        clear n0_ n1_ n2_
        (try clear hb)
        (try clear hb2)
        (try clear hk)
        (try clear hi)
        refine hK.out _ _ ⟨(blk_cell BK185.out 0).trans rfl, (blk_cell BK185.out 1).trans rfl, (blk_cell BK185.out 2).trans rfl, (blk_cell BK181.out 0).trans rfl, (blk_cell BK181.out 1).trans rfl, (blk_cell BK181.out 2).trans rfl, (blk_cell BK181.out 3).trans rfl, (blk_cell BK181.out 4).trans rfl, (blk_cell BK181.out 5).trans rfl, (blk_cell BK181.out 6).trans rfl⟩ (fun hHeld => ?_)
        clear hK K
        refine norm_ (a' := ?_) ?_ ?_
        rotate_left
        · show Act.put _ (some 23) _ = _
          simp only [Act.put, List.setIfInBounds_toArray, List.set_cons_zero, List.set_cons_succ, i64_w, i32_w]
          rfl
        refine pure_ (i := 15) (N := some 24) (v := ?_) (a' := ?_) #[true, true, true, true, true, true, true, true, true, true, true, true, true, true, true, true, false, false, false] rfl rfl (any_of HT_.out (by kernel_rfl)) (fun _ _ _ h => h) (Or.inl ⟨by rfl, ?_⟩) ?_ ?_
        rotate_left
        · intro w'
          go_simp
          with_reducible rfl
        rotate_left
        · simp only [Act.put, List.setIfInBounds_toArray, List.set_cons_zero, List.set_cons_succ, i64_w, i32_w]
          rfl
        refine pure_ (i := 16) (N := some 25) (v := ?_) (a' := ?_) #[true, true, true, true, true, true, true, true, true, true, true, true, true, true, true, true, true, false, false] rfl rfl (any_of HT_.out (by kernel_rfl)) (fun _ _ _ h => h) (Or.inl ⟨by rfl, ?_⟩) ?_ ?_
        rotate_left
        · intro w'
          go_simp
          with_reducible rfl
        rotate_left
        · simp only [Act.put, List.setIfInBounds_toArray, List.set_cons_zero, List.set_cons_succ, i64_w, i32_w]
          rfl
        refine pure_ (i := 17) (N := some 26) (v := ?_) (a' := ?_) #[true, true, true, true, true, true, true, true, true, true, true, true, true, true, true, true, true, true, false] rfl rfl (any_of HT_.out (by kernel_rfl)) (fun _ _ _ h => h) (Or.inl ⟨by rfl, ?_⟩) ?_ ?_
        rotate_left
        · intro w'
          go_simp
          with_reducible rfl
        rotate_left
        · simp only [Act.put, List.setIfInBounds_toArray, List.set_cons_zero, List.set_cons_succ, i64_w, i32_w]
          rfl
        refine pure_ (i := 18) (N := some 27) (v := ?_) (a' := ?_) #[true, true, true, true, true, true, true, true, true, true, true, true, true, true, true, true, true, true, true] rfl rfl (any_of HT_.out (by kernel_rfl)) (fun _ _ _ h => h) (Or.inl ⟨by rfl, ?_⟩) ?_ ?_
        rotate_left
        · intro w'
          go_simp
          with_reducible rfl
        rotate_left
        · simp only [Act.put, List.setIfInBounds_toArray, List.set_cons_zero, List.set_cons_succ, i64_w, i32_w]
          rfl
        refine done_ (done_of HT_.out (by kernel_rfl)) ?_
        try go_wp2
        go_meet
        case rel => exact ⟨_, (((t182 != 0) != (decide (a1 < t189)))), (by first | rfl | (simp; done) | (simp [*]; done)), H', ⟨by first | omega | exact Nat.le_refl _⟩, ⟨by (with_reducible repeat (first | refine blk_drewN ?_ _ | refine blk_drew ?_ | refine blk_alloc ?_ _)); exact BK181.out⟩, ⟨by (with_reducible repeat (first | refine blk_drewN ?_ _ | refine blk_drew ?_ | refine blk_alloc ?_ _)); exact BK185.out⟩, ⟨by repeat (first | (with_reducible first | exact HB.out | apply below_alloc | apply pw_below_drewN | apply below_drew1 | refine below_set ?_ GE181.out | refine below_set ?_ GE185.out) | exact HB.out)⟩⟩
      · rw [if_neg c16] at H
        have c16b0 : decide (0 ≤ a1) = false := decide_eq_false c16
        clear c16
        have H' := Aside0.mk H
        clear H
        try go_wp2
        have n0_ : Aside0 ((((w8.setCell ⟨gb185, 0, none⟩ (.int .i64 t182)).setCell ⟨gb185, 1, none⟩ (.int .i64 t183)).setCell ⟨gb185, 2, none⟩ (.int .i64 t184)).heap[gb181]? = some (.cells #[.int .i64 a0_0, .int .i64 a0_1, .int .i64 a0_2, .int .i64 a0_3, .int .i64 a0_4, .int .i64 a0_5, .int .i64 a0_6] 23 (0, 0))) := ⟨by (with_reducible repeat (first | refine blk_drewN ?_ _ | refine blk_drew ?_ | refine blk_alloc ?_ _)); refine blk_far ?_ NB181_185.out _; (with_reducible repeat (first | refine blk_drewN ?_ _ | refine blk_drew ?_ | refine blk_alloc ?_ _)); refine blk_far ?_ NB181_185.out _; (with_reducible repeat (first | refine blk_drewN ?_ _ | refine blk_drew ?_ | refine blk_alloc ?_ _)); refine blk_far ?_ NB181_185.out _; (with_reducible repeat (first | refine blk_drewN ?_ _ | refine blk_drew ?_ | refine blk_alloc ?_ _)); exact BK181.out⟩
        have n1_ : Aside0 ((((w8.setCell ⟨gb185, 0, none⟩ (.int .i64 t182)).setCell ⟨gb185, 1, none⟩ (.int .i64 t183)).setCell ⟨gb185, 2, none⟩ (.int .i64 t184)).heap[gb185]? = some (.cells #[.int .i64 t182, .int .i64 t183, .int .i64 t184] 29 (0, 0))) := ⟨by (with_reducible repeat (first | refine blk_drewN ?_ _ | refine blk_drew ?_ | refine blk_alloc ?_ _)); refine blk_put (cs := #[.int .i64 t182, .int .i64 t183, .int .i64 0]) ?_ 2 _ rfl; (with_reducible repeat (first | refine blk_drewN ?_ _ | refine blk_drew ?_ | refine blk_alloc ?_ _)); refine blk_put (cs := #[.int .i64 t182, .int .i64 0, .int .i64 0]) ?_ 1 _ rfl; (with_reducible repeat (first | refine blk_drewN ?_ _ | refine blk_drew ?_ | refine blk_alloc ?_ _)); refine blk_put (cs := #[.int .i64 0, .int .i64 0, .int .i64 0]) ?_ 0 _ rfl; (with_reducible repeat (first | refine blk_drewN ?_ _ | refine blk_drew ?_ | refine blk_alloc ?_ _)); exact BK185.out⟩
        have n2_ : Aside0 (Below w.heap.size w (((w8.setCell ⟨gb185, 0, none⟩ (.int .i64 t182)).setCell ⟨gb185, 1, none⟩ (.int .i64 t183)).setCell ⟨gb185, 2, none⟩ (.int .i64 t184))) := ⟨by repeat (first | (with_reducible first | exact HB.out | apply below_alloc | apply pw_below_drewN | apply below_drew1 | refine below_set ?_ GE181.out | refine below_set ?_ GE185.out) | exact HB.out)⟩
        (try clear BK181)
        (try clear BK185)
        (try clear HB)
        generalize (((w8.setCell ⟨gb185, 0, none⟩ (.int .i64 t182)).setCell ⟨gb185, 1, none⟩ (.int .i64 t183)).setCell ⟨gb185, 2, none⟩ (.int .i64 t184)) = w22 at n0_ n1_ n2_ ⊢
        have BK181 := n0_
        have BK185 := n1_
        have HB := n2_
        clear n0_ n1_ n2_
        have n0_ := Aside0.mk (blk_drew BK181.out)
        have n1_ := Aside0.mk (blk_drew BK185.out)
        have n2_ := Aside0.mk (below_drew1 HB.out)
        clear BK181
        clear BK185
        clear HB
        have BK181 := n0_
        have BK185 := n1_
        have HB := n2_
        clear n0_ n1_ n2_
        refine start_ (n := 19) (S := fun w' => w'.cell? ⟨gb185, 0, none⟩ = some (.int .i64 t182) ∧ w'.cell? ⟨gb185, 1, none⟩ = some (.int .i64 t183) ∧ w'.cell? ⟨gb185, 2, none⟩ = some (.int .i64 t184) ∧ w'.cell? ⟨gb181, 0, none⟩ = some (.int .i64 a0_0) ∧ w'.cell? ⟨gb181, 1, none⟩ = some (.int .i64 a0_1) ∧ w'.cell? ⟨gb181, 2, none⟩ = some (.int .i64 a0_2) ∧ w'.cell? ⟨gb181, 3, none⟩ = some (.int .i64 a0_3) ∧ w'.cell? ⟨gb181, 4, none⟩ = some (.int .i64 a0_4) ∧ w'.cell? ⟨gb181, 5, none⟩ = some (.int .i64 a0_5) ∧ w'.cell? ⟨gb181, 6, none⟩ = some (.int .i64 a0_6)) (ds := []) #[false, false, false, false, false, false, false, false, false, false, false, false, false, false, false, false, false, false, false] (by kernel_rfl) rfl rfl ⟨(blk_cell BK185.out 0).trans rfl, (blk_cell BK185.out 1).trans rfl, (blk_cell BK185.out 2).trans rfl, (blk_cell BK181.out 0).trans rfl, (blk_cell BK181.out 1).trans rfl, (blk_cell BK181.out 2).trans rfl, (blk_cell BK181.out 3).trans rfl, (blk_cell BK181.out 4).trans rfl, (blk_cell BK181.out 5).trans rfl, (blk_cell BK181.out 6).trans rfl⟩ (fun hHeld => ?_); refine with_tabW stepstonelaw04_PlanWhere.tab2 stepstonelaw04_PlanWhere.bits2 (fun HT_ HW_ => ?_)
        generalize w22.drew = w23 at BK181 BK185 HB hHeld ⊢
        refine pure_ (i := 2) (N := some 11) (v := ?_) (a' := ?_) #[false, false, true, false, false, false, false, false, false, false, false, false, false, false, false, false, false, false, false] rfl rfl (any_of HT_.out (by kernel_rfl)) (fun _ _ _ h => h) (Or.inl ⟨by rfl, ?_⟩) ?_ ?_
        rotate_left
        · intro w'
          go_simp
          with_reducible rfl
        rotate_left
        · simp only [Act.put, List.setIfInBounds_toArray, List.set_cons_zero, List.set_cons_succ, i64_w, i32_w]
          rfl
        refine take_ (i := 0) (N := some 9) (v := ?_) (a' := ?_) #[true, false, true, false, false, false, false, false, false, false, false, false, false, false, false, false, false, false, false] rfl rfl (take_ofW HT_.out HW_.out (by kernel_rfl)) (fun _ _ _ h => h) (Or.inl ⟨by rfl, ?_⟩) hHeld ?_ ?_
        rotate_left
        · rintro w' ⟨s0, s1, s2, s3, s4, s5, s6, s7, s8, s9⟩
          go_simp
          with_reducible rfl
        rotate_left
        · simp only [Act.put, List.setIfInBounds_toArray, List.set_cons_zero, List.set_cons_succ, i64_w, i32_w]
          rfl
        refine take_ (i := 1) (N := some 10) (v := ?_) (a' := ?_) #[true, true, true, false, false, false, false, false, false, false, false, false, false, false, false, false, false, false, false] rfl rfl (take_ofW HT_.out HW_.out (by kernel_rfl)) (fun _ _ _ h => h) (Or.inl ⟨by rfl, ?_⟩) hHeld ?_ ?_
        rotate_left
        · rintro w' ⟨s0, s1, s2, s3, s4, s5, s6, s7, s8, s9⟩
          go_simp
          with_reducible rfl
        rotate_left
        · simp only [Act.put, List.setIfInBounds_toArray, List.set_cons_zero, List.set_cons_succ, i64_w, i32_w]
          rfl
        refine one_ (i := 3) (N := some 12) #[true, true, true, true, false, false, false, false, false, false, false, false, false, false, false, false, false, false, false] rfl rfl (one_of HT_.out (by kernel_rfl)) (by decide) (fun K hK => ?_)
        refine goes_ Try.func25 (by kernel_rfl) rfl #[.agg #[.int .i64 a0_0, .int .i64 a0_1, .int .i64 a0_2, .int .i64 a0_3, .int .i64 a0_4, .int .i64 a0_5, .int .i64 a0_6], .int .i64 a1] (by rfl) rfl rfl (by (try simp only [List.map_toArray, List.map_cons, List.map_nil]); first | done | rfl | (simp only [List.length_drop, List.length_take]; rfl)) ?_
        with_reducible refine (stepstoneref04_Where.calls k a0_0 a0_1 a0_2 a0_3 a0_4 a0_5 a0_6 a1 t186 t187 t188 _ A11.out).mono ?_
        rintro e w24 ⟨rfl, hb⟩
        refine ⟨_, rfl, ?_⟩
        have n0_ := Aside0.mk (blk_below (g := gb181) (o := .cells #[.int .i64 a0_0, .int .i64 a0_1, .int .i64 a0_2, .int .i64 a0_3, .int .i64 a0_4, .int .i64 a0_5, .int .i64 a0_6] 23 (0, 0)) (by (with_reducible repeat (first | refine blk_drewN ?_ _ | refine blk_drew ?_ | refine blk_alloc ?_ _)); exact BK181.out) hb)
        have n1_ := Aside0.mk (blk_below (g := gb185) (o := .cells #[.int .i64 t182, .int .i64 t183, .int .i64 t184] 29 (0, 0)) (by (with_reducible repeat (first | refine blk_drewN ?_ _ | refine blk_drew ?_ | refine blk_alloc ?_ _)); exact BK185.out) hb)
        have n2_ := Aside0.mk (below_step (by repeat (first | (with_reducible first | exact HB.out | apply below_alloc | apply pw_below_drewN | apply below_drew1 | refine below_set ?_ GE181.out | refine below_set ?_ GE185.out) | exact HB.out)) hb)
        clear BK181
        clear BK185
        clear HB
        have BK181 := n0_
        have BK185 := n1_
        have HB := n2_
        clear n0_ n1_ n2_
        (try clear hb)
        (try clear hb2)
        (try clear hk)
        (try clear hi)
        refine hK.out _ _ ⟨(blk_cell BK185.out 0).trans rfl, (blk_cell BK185.out 1).trans rfl, (blk_cell BK185.out 2).trans rfl, (blk_cell BK181.out 0).trans rfl, (blk_cell BK181.out 1).trans rfl, (blk_cell BK181.out 2).trans rfl, (blk_cell BK181.out 3).trans rfl, (blk_cell BK181.out 4).trans rfl, (blk_cell BK181.out 5).trans rfl, (blk_cell BK181.out 6).trans rfl⟩ (fun hHeld => ?_)
        clear hK K
        refine norm_ (a' := ?_) ?_ ?_
        rotate_left
        · show Act.put _ (some 12) _ = _
          simp only [Act.put, List.setIfInBounds_toArray, List.set_cons_zero, List.set_cons_succ, i64_w, i32_w]
          rfl
        refine pure_ (i := 4) (N := some 13) (v := ?_) (a' := ?_) #[true, true, true, true, true, false, false, false, false, false, false, false, false, false, false, false, false, false, false] rfl rfl (any_of HT_.out (by kernel_rfl)) (fun _ _ _ h => h) (Or.inl ⟨by rfl, ?_⟩) ?_ ?_
        rotate_left
        · intro w'
          go_simp
          with_reducible rfl
        rotate_left
        · simp only [Act.put, List.setIfInBounds_toArray, List.set_cons_zero, List.set_cons_succ, i64_w, i32_w]
          rfl
        refine pure_ (i := 5) (N := some 14) (v := ?_) (a' := ?_) #[true, true, true, true, true, true, false, false, false, false, false, false, false, false, false, false, false, false, false] rfl rfl (any_of HT_.out (by kernel_rfl)) (fun _ _ _ h => h) (Or.inl ⟨by rfl, ?_⟩) ?_ ?_
        rotate_left
        · intro w'
          go_simp
          with_reducible rfl
        rotate_left
        · simp only [Act.put, List.setIfInBounds_toArray, List.set_cons_zero, List.set_cons_succ, i64_w, i32_w]
          rfl
        refine pure_ (i := 6) (N := some 15) (v := ?_) (a' := ?_) #[true, true, true, true, true, true, true, false, false, false, false, false, false, false, false, false, false, false, false] rfl rfl (any_of HT_.out (by kernel_rfl)) (fun _ _ _ h => h) (Or.inl ⟨by rfl, ?_⟩) ?_ ?_
        rotate_left
        · intro w'
          go_simp
          with_reducible rfl
        rotate_left
        · simp only [Act.put, List.setIfInBounds_toArray, List.set_cons_zero, List.set_cons_succ, i64_w, i32_w]
          rfl
        refine pure_ (i := 9) (N := some 18) (v := ?_) (a' := ?_) #[true, true, true, true, true, true, true, false, false, true, false, false, false, false, false, false, false, false, false] rfl rfl (any_of HT_.out (by kernel_rfl)) (fun _ _ _ h => h) (Or.inl ⟨by rfl, ?_⟩) ?_ ?_
        rotate_left
        · intro w'
          go_simp
          with_reducible rfl
        rotate_left
        · simp only [Act.put, List.setIfInBounds_toArray, List.set_cons_zero, List.set_cons_succ, i64_w, i32_w]
          rfl
        refine pure_ (i := 10) (N := some 19) (v := ?_) (a' := ?_) #[true, true, true, true, true, true, true, false, false, true, true, false, false, false, false, false, false, false, false] rfl rfl (any_of HT_.out (by kernel_rfl)) (fun _ _ _ h => h) (Or.inl ⟨by rfl, ?_⟩) ?_ ?_
        rotate_left
        · intro w'
          go_simp
          with_reducible rfl
        rotate_left
        · simp only [Act.put, List.setIfInBounds_toArray, List.set_cons_zero, List.set_cons_succ, i64_w, i32_w]
          rfl
        refine pure_ (i := 11) (N := some 20) (v := ?_) (a' := ?_) #[true, true, true, true, true, true, true, false, false, true, true, true, false, false, false, false, false, false, false] rfl rfl (any_of HT_.out (by kernel_rfl)) (fun _ _ _ h => h) (Or.inl ⟨by rfl, ?_⟩) ?_ ?_
        rotate_left
        · intro w'
          go_simp
          with_reducible rfl
        rotate_left
        · simp only [Act.put, List.setIfInBounds_toArray, List.set_cons_zero, List.set_cons_succ, i64_w, i32_w]
          rfl
        refine pure_ (i := 12) (N := some 21) (v := undef) (a' := ?_) #[true, true, true, true, true, true, true, false, false, true, true, true, true, false, false, false, false, false, false] rfl rfl (any_of HT_.out (by kernel_rfl)) (fun _ _ _ h => h) (Or.inr ⟨by rfl, rfl⟩) ?_ ?_
        rotate_left
        · simp only [Act.put, List.setIfInBounds_toArray, List.set_cons_zero, List.set_cons_succ, i64_w, i32_w]
          rfl
        refine pure_ (i := 13) (N := some 22) (v := undef) (a' := ?_) #[true, true, true, true, true, true, true, false, false, true, true, true, true, true, false, false, false, false, false] rfl rfl (any_of HT_.out (by kernel_rfl)) (fun _ _ _ h => h) (Or.inr ⟨by rfl, rfl⟩) ?_ ?_
        rotate_left
        · simp only [Act.put, List.setIfInBounds_toArray, List.set_cons_zero, List.set_cons_succ, i64_w, i32_w]
          rfl
        refine pure_ (i := 14) (N := some 23) (v := undef) (a' := ?_) #[true, true, true, true, true, true, true, false, false, true, true, true, true, true, true, false, false, false, false] rfl rfl (any_of HT_.out (by kernel_rfl)) (fun _ _ _ h => h) (Or.inr ⟨by rfl, rfl⟩) ?_ ?_
        rotate_left
        · simp only [Act.put, List.setIfInBounds_toArray, List.set_cons_zero, List.set_cons_succ, i64_w, i32_w]
          rfl
        refine pure_ (i := 15) (N := some 24) (v := undef) (a' := ?_) #[true, true, true, true, true, true, true, false, false, true, true, true, true, true, true, true, false, false, false] rfl rfl (any_of HT_.out (by kernel_rfl)) (fun _ _ _ h => h) (Or.inr ⟨by rfl, rfl⟩) ?_ ?_
        rotate_left
        · simp only [Act.put, List.setIfInBounds_toArray, List.set_cons_zero, List.set_cons_succ, i64_w, i32_w]
          rfl
        refine pure_ (i := 16) (N := some 25) (v := ?_) (a' := ?_) #[true, true, true, true, true, true, true, false, false, true, true, true, true, true, true, true, true, false, false] rfl rfl (any_of HT_.out (by kernel_rfl)) (fun _ _ _ h => h) (Or.inl ⟨by rfl, ?_⟩) ?_ ?_
        rotate_left
        · intro w'
          go_simp
          with_reducible rfl
        rotate_left
        · simp only [Act.put, List.setIfInBounds_toArray, List.set_cons_zero, List.set_cons_succ, i64_w, i32_w]
          rfl
        refine take_ (i := 7) (N := some 16) (v := ?_) (a' := ?_) #[true, true, true, true, true, true, true, true, false, true, true, true, true, true, true, true, true, false, false] rfl rfl (take_ofW HT_.out HW_.out (by kernel_rfl)) (fun _ _ _ h => h) (Or.inl ⟨by rfl, ?_⟩) hHeld ?_ ?_
        rotate_left
        · rintro w' ⟨s0, s1, s2, s3, s4, s5, s6, s7, s8, s9⟩
          go_simp
          with_reducible rfl
        rotate_left
        · simp only [Act.put, List.setIfInBounds_toArray, List.set_cons_zero, List.set_cons_succ, i64_w, i32_w]
          rfl
        refine pure_ (i := 8) (N := some 17) (v := ?_) (a' := ?_) #[true, true, true, true, true, true, true, true, true, true, true, true, true, true, true, true, true, false, false] rfl rfl (any_of HT_.out (by kernel_rfl)) (fun _ _ _ h => h) (Or.inl ⟨by rfl, ?_⟩) ?_ ?_
        rotate_left
        · intro w'
          go_simp
          with_reducible rfl
        rotate_left
        · simp only [Act.put, List.setIfInBounds_toArray, List.set_cons_zero, List.set_cons_succ, i64_w, i32_w]
          rfl
        refine pure_ (i := 17) (N := some 26) (v := ?_) (a' := ?_) #[true, true, true, true, true, true, true, true, true, true, true, true, true, true, true, true, true, true, false] rfl rfl (any_of HT_.out (by kernel_rfl)) (fun _ _ _ h => h) (Or.inl ⟨by rfl, ?_⟩) ?_ ?_
        rotate_left
        · intro w'
          go_simp
          with_reducible rfl
        rotate_left
        · simp only [Act.put, List.setIfInBounds_toArray, List.set_cons_zero, List.set_cons_succ, i64_w, i32_w]
          rfl
        refine pure_ (i := 18) (N := some 27) (v := ?_) (a' := ?_) #[true, true, true, true, true, true, true, true, true, true, true, true, true, true, true, true, true, true, true] rfl rfl (any_of HT_.out (by kernel_rfl)) (fun _ _ _ h => h) (Or.inl ⟨by rfl, ?_⟩) ?_ ?_
        rotate_left
        · intro w'
          go_simp
          with_reducible rfl
        rotate_left
        · simp only [Act.put, List.setIfInBounds_toArray, List.set_cons_zero, List.set_cons_succ, i64_w, i32_w]
          rfl
        refine done_ (done_of HT_.out (by kernel_rfl)) ?_
        try go_wp2
        go_meet
        case rel => exact ⟨_, (((t182 != 0) != false)), (by first | rfl | (simp; done) | (simp [*]; done)), H', ⟨by first | omega | exact Nat.le_refl _⟩, ⟨by (with_reducible repeat (first | refine blk_drewN ?_ _ | refine blk_drew ?_ | refine blk_alloc ?_ _)); exact BK181.out⟩, ⟨by (with_reducible repeat (first | refine blk_drewN ?_ _ | refine blk_drew ?_ | refine blk_alloc ?_ _)); exact BK185.out⟩, ⟨by repeat (first | (with_reducible first | exact HB.out | apply below_alloc | apply pw_below_drewN | apply below_drew1 | refine below_set ?_ GE181.out | refine below_set ?_ GE185.out) | exact HB.out)⟩⟩
  case rest =>
    clear HC4
    try clear c1
    try clear c2
    try clear p2
    try clear c5
    try clear c9
    try clear c12
    try clear c12b0
    try clear c16
    try clear c16b0
    try clear c18
    try clear c24
    try clear hcz10_0
    try clear hcz10_1
    try clear hcz10_2
    try clear hcz6_0
    try clear hcz6_1
    try clear hcz6_2
    try clear hcz6_3
    try clear hcz6_4
    try clear hcz6_5
    try clear hcz6_6
    try clear hfz10_0
    try clear hfz10_1
    try clear hfz10_2
    try clear hfz6_0
    try clear hfz6_1
    try clear hfz6_2
    try clear hfz6_3
    try clear hfz6_4
    try clear hfz6_5
    try clear hfz6_6
    obtain ⟨kq, x27_3, rfl, HA, HJ3, BK181, BK185, HB⟩ := hcut
    cases kq with
    | zero => exact absurd HA.out (by simp [stepstonelaw04_PlanWhere.j0])
    | succ kj3 =>
      have H := HA.out
      clear HA
      simp only [stepstonelaw04_PlanWhere.j0] at H
      by_cases c25 : x27_3 = true
      · subst c25
        have H1 : (some false) = some r := by rw [if_pos rfl] at H; exact H
        clear H
        have H := H1
        clear H1
        obtain rfl := Option.some.inj H
        go_wp2
        go_ret
        exact ⟨by first | rfl | (simp [errW_none, errW_some] <;> rfl) | (simp [*, errW_none, errW_some] <;> rfl), by repeat (first | (with_reducible first | exact HB.out | apply below_alloc | apply pw_below_drewN | apply below_drew1 | refine below_set ?_ GE181.out | refine below_set ?_ GE185.out) | exact HB.out)⟩
      · replace c25 := Bool.eq_false_iff.mpr c25
        subst c25
        have H1 : (if t182 = 1 then ((stepstonelaw04_alive.f).bind fun t190 => (if t190 = true then (some (a1 == 0)) else (some false))) else (if t182 = 2 then ((stepstonelaw04_alive.f).bind fun t191 => (if t191 = true then ((plan_Reserved.f a0_0 a0_1 a0_2 a0_3 a0_4 a0_5 a0_6 t183 t184).bind fun t192 => (some (t192 == a1))) else (some false))) else (if t182 = 3 then ((stepstonelaw04_alive.f).bind fun t193 => (if t193 = true then ((plan_Cell.f kj3 a0_0 a0_1 a0_2 a0_3 a0_4 a0_5 a0_6 t183 t184).bind fun t194 => (some (t194 == a1))) else (some false))) else ((stepstonelaw04_alive.f).bind fun t195 => (if t195 = true then (some (t182 == 0 && (t183 == 0 && (t184 == 0)))) else (some false)))))) = some r := by rw [if_neg (show ¬ (false = true) by decide)] at H; exact H
        clear H
        have H := H1
        clear H1
        by_cases c26 : t182 = 1
        · rw [if_pos c26] at H
          have c26b0 : (t182 == 1) = true := beq_iff_eq.mpr c26
          have c26b1 : (t182 != 1) = false := bne_eq_false_iff_eq.mpr c26
          clear c26
          replace H := Option.bind_eq_some_iff.mp H
          obtain ⟨t190, A270, H⟩ := H
          replace H : (if t190 = true then (some (a1 == 0)) else (some false)) = some r := H
          have A27 := Aside0.mk A270
          clear A270
          by_cases c28 : t190 = true
          · subst c28
            have H1 : (some (a1 == 0)) = some r := by rw [if_pos rfl] at H; exact H
            clear H
            have H := H1
            clear H1
            obtain rfl := Option.some.inj H
            have hnb29 := NB185_181.out
            have hnc29 := NB181_185.out
            have hcz30_0 : wc.cell? ⟨gb185, 0, none⟩ = some (.int .i64 t182) := (blk_cell BK185.out 0).trans rfl
            have hcz30_1 : wc.cell? ⟨gb185, 1, none⟩ = some (.int .i64 t183) := (blk_cell BK185.out 1).trans rfl
            have hcz30_2 : wc.cell? ⟨gb185, 2, none⟩ = some (.int .i64 t184) := (blk_cell BK185.out 2).trans rfl
            have hfz30_0 := blk_frozen BK185.out 0
            have hfz30_1 := blk_frozen BK185.out 1
            have hfz30_2 := blk_frozen BK185.out 2
            go_wp2_with (first | ((with_reducible refine gate_callee (f := 15) rfl ?_); refine goesL_ (some 32) rfl rfl Try.func15 (by kernel_rfl) rfl #[] rfl (by (try simp only [List.map_toArray, List.map_cons, List.map_nil]); first | done | rfl | (simp only [List.length_drop, List.length_take]; rfl)) ?_; (with_reducible refine (stepstonelaw04_alive.calls  true _ A27.out).mono ?_); rintro e w31 ⟨rfl, hb⟩; refine ⟨_, rfl, ?_⟩; have n0_ := Aside0.mk (blk_below (g := gb181) (o := .cells #[.int .i64 a0_0, .int .i64 a0_1, .int .i64 a0_2, .int .i64 a0_3, .int .i64 a0_4, .int .i64 a0_5, .int .i64 a0_6] 23 (0, 0)) (by (with_reducible repeat (first | refine blk_drewN ?_ _ | refine blk_drew ?_ | refine blk_alloc ?_ _)); exact BK181.out) hb); have n1_ := Aside0.mk (blk_below (g := gb185) (o := .cells #[.int .i64 t182, .int .i64 t183, .int .i64 t184] 29 (0, 0)) (by (with_reducible repeat (first | refine blk_drewN ?_ _ | refine blk_drew ?_ | refine blk_alloc ?_ _)); exact BK185.out) hb); have n2_ := Aside0.mk (below_step (by repeat (first | (with_reducible first | exact HB.out | apply below_alloc | apply pw_below_drewN | apply below_drew1 | refine below_set ?_ GE181.out | refine below_set ?_ GE185.out) | exact HB.out)) hb); clear BK181; clear BK185; clear HB; have BK181 := n0_; have BK185 := n1_; have HB := n2_; clear n0_ n1_ n2_; (try clear hb); (try clear hb2); (try clear hk); (try clear hi)))
            go_ret
            exact ⟨by first | rfl | (simp [errW_none, errW_some] <;> rfl) | (simp [*, errW_none, errW_some] <;> rfl), by repeat (first | (with_reducible first | exact HB.out | apply below_alloc | apply pw_below_drewN | apply below_drew1 | refine below_set ?_ GE181.out | refine below_set ?_ GE185.out) | exact HB.out)⟩
          · replace c28 := Bool.eq_false_iff.mpr c28
            subst c28
            have H1 : (some false) = some r := by rw [if_neg (show ¬ (false = true) by decide)] at H; exact H
            clear H
            have H := H1
            clear H1
            obtain rfl := Option.some.inj H
            have hnb32 := NB185_181.out
            have hnc32 := NB181_185.out
            have hcz33_0 : wc.cell? ⟨gb185, 0, none⟩ = some (.int .i64 t182) := (blk_cell BK185.out 0).trans rfl
            have hcz33_1 : wc.cell? ⟨gb185, 1, none⟩ = some (.int .i64 t183) := (blk_cell BK185.out 1).trans rfl
            have hcz33_2 : wc.cell? ⟨gb185, 2, none⟩ = some (.int .i64 t184) := (blk_cell BK185.out 2).trans rfl
            have hfz33_0 := blk_frozen BK185.out 0
            have hfz33_1 := blk_frozen BK185.out 1
            have hfz33_2 := blk_frozen BK185.out 2
            go_wp2_with (first | ((with_reducible refine gate_callee (f := 15) rfl ?_); refine goesL_ (some 32) rfl rfl Try.func15 (by kernel_rfl) rfl #[] rfl (by (try simp only [List.map_toArray, List.map_cons, List.map_nil]); first | done | rfl | (simp only [List.length_drop, List.length_take]; rfl)) ?_; (with_reducible refine (stepstonelaw04_alive.calls  false _ A27.out).mono ?_); rintro e w34 ⟨rfl, hb⟩; refine ⟨_, rfl, ?_⟩; have n0_ := Aside0.mk (blk_below (g := gb181) (o := .cells #[.int .i64 a0_0, .int .i64 a0_1, .int .i64 a0_2, .int .i64 a0_3, .int .i64 a0_4, .int .i64 a0_5, .int .i64 a0_6] 23 (0, 0)) (by (with_reducible repeat (first | refine blk_drewN ?_ _ | refine blk_drew ?_ | refine blk_alloc ?_ _)); exact BK181.out) hb); have n1_ := Aside0.mk (blk_below (g := gb185) (o := .cells #[.int .i64 t182, .int .i64 t183, .int .i64 t184] 29 (0, 0)) (by (with_reducible repeat (first | refine blk_drewN ?_ _ | refine blk_drew ?_ | refine blk_alloc ?_ _)); exact BK185.out) hb); have n2_ := Aside0.mk (below_step (by repeat (first | (with_reducible first | exact HB.out | apply below_alloc | apply pw_below_drewN | apply below_drew1 | refine below_set ?_ GE181.out | refine below_set ?_ GE185.out) | exact HB.out)) hb); clear BK181; clear BK185; clear HB; have BK181 := n0_; have BK185 := n1_; have HB := n2_; clear n0_ n1_ n2_; (try clear hb); (try clear hb2); (try clear hk); (try clear hi)))
            go_ret
            exact ⟨by first | rfl | (simp [errW_none, errW_some] <;> rfl) | (simp [*, errW_none, errW_some] <;> rfl), by repeat (first | (with_reducible first | exact HB.out | apply below_alloc | apply pw_below_drewN | apply below_drew1 | refine below_set ?_ GE181.out | refine below_set ?_ GE185.out) | exact HB.out)⟩
        · rw [if_neg c26] at H
          have c26b0 : (t182 == 1) = false := beq_eq_false_iff_ne.mpr c26
          have c26b1 : (t182 != 1) = true := bne_iff_ne.mpr c26
          by_cases c35 : t182 = 2
          · rw [if_pos c35] at H
            have c35b0 : (t182 == 2) = true := beq_iff_eq.mpr c35
            have c35b1 : (t182 != 2) = false := bne_eq_false_iff_eq.mpr c35
            clear c35
            replace H := Option.bind_eq_some_iff.mp H
            obtain ⟨t191, A360, H⟩ := H
            replace H : (if t191 = true then ((plan_Reserved.f a0_0 a0_1 a0_2 a0_3 a0_4 a0_5 a0_6 t183 t184).bind fun t192 => (some (t192 == a1))) else (some false)) = some r := H
            have A36 := Aside0.mk A360
            clear A360
            by_cases c37 : t191 = true
            · subst c37
              have H1 : ((plan_Reserved.f a0_0 a0_1 a0_2 a0_3 a0_4 a0_5 a0_6 t183 t184).bind fun t192 => (some (t192 == a1))) = some r := by rw [if_pos rfl] at H; exact H
              clear H
              have H := H1
              clear H1
              replace H := Option.bind_eq_some_iff.mp H
              obtain ⟨t192, A380, H⟩ := H
              replace H : (some (t192 == a1)) = some r := H
              have A38 := Aside0.mk A380
              clear A380
              obtain rfl := Option.some.inj H
              have hnb39 := NB185_181.out
              have hnc39 := NB181_185.out
              have hcz40_0 : wc.cell? ⟨gb185, 0, none⟩ = some (.int .i64 t182) := (blk_cell BK185.out 0).trans rfl
              have hcz40_1 : wc.cell? ⟨gb185, 1, none⟩ = some (.int .i64 t183) := (blk_cell BK185.out 1).trans rfl
              have hcz40_2 : wc.cell? ⟨gb185, 2, none⟩ = some (.int .i64 t184) := (blk_cell BK185.out 2).trans rfl
              have hfz40_0 := blk_frozen BK185.out 0
              have hfz40_1 := blk_frozen BK185.out 1
              have hfz40_2 := blk_frozen BK185.out 2
              go_wp2_with (first | ((with_reducible refine gate_callee (f := 15) rfl ?_); refine goesL_ (some 39) rfl rfl Try.func15 (by kernel_rfl) rfl #[] rfl (by (try simp only [List.map_toArray, List.map_cons, List.map_nil]); first | done | rfl | (simp only [List.length_drop, List.length_take]; rfl)) ?_; (with_reducible refine (stepstonelaw04_alive.calls  true _ A36.out).mono ?_); rintro e w41 ⟨rfl, hb⟩; refine ⟨_, rfl, ?_⟩; have n0_ := Aside0.mk (blk_below (g := gb181) (o := .cells #[.int .i64 a0_0, .int .i64 a0_1, .int .i64 a0_2, .int .i64 a0_3, .int .i64 a0_4, .int .i64 a0_5, .int .i64 a0_6] 23 (0, 0)) (by (with_reducible repeat (first | refine blk_drewN ?_ _ | refine blk_drew ?_ | refine blk_alloc ?_ _)); exact BK181.out) hb); have n1_ := Aside0.mk (blk_below (g := gb185) (o := .cells #[.int .i64 t182, .int .i64 t183, .int .i64 t184] 29 (0, 0)) (by (with_reducible repeat (first | refine blk_drewN ?_ _ | refine blk_drew ?_ | refine blk_alloc ?_ _)); exact BK185.out) hb); have n2_ := Aside0.mk (below_step (by repeat (first | (with_reducible first | exact HB.out | apply below_alloc | apply pw_below_drewN | apply below_drew1 | refine below_set ?_ GE181.out | refine below_set ?_ GE185.out) | exact HB.out)) hb); clear BK181; clear BK185; clear HB; have BK181 := n0_; have BK185 := n1_; have HB := n2_; clear n0_ n1_ n2_; (try clear hb); (try clear hb2); (try clear hk); (try clear hi); have hcz42_0 : w41.cell? ⟨gb181, 0, none⟩ = some (.int .i64 a0_0) := (blk_cell BK181.out 0).trans rfl; have hcz42_1 : w41.cell? ⟨gb181, 1, none⟩ = some (.int .i64 a0_1) := (blk_cell BK181.out 1).trans rfl; have hcz42_2 : w41.cell? ⟨gb181, 2, none⟩ = some (.int .i64 a0_2) := (blk_cell BK181.out 2).trans rfl; have hcz42_3 : w41.cell? ⟨gb181, 3, none⟩ = some (.int .i64 a0_3) := (blk_cell BK181.out 3).trans rfl; have hcz42_4 : w41.cell? ⟨gb181, 4, none⟩ = some (.int .i64 a0_4) := (blk_cell BK181.out 4).trans rfl; have hcz42_5 : w41.cell? ⟨gb181, 5, none⟩ = some (.int .i64 a0_5) := (blk_cell BK181.out 5).trans rfl; have hcz42_6 : w41.cell? ⟨gb181, 6, none⟩ = some (.int .i64 a0_6) := (blk_cell BK181.out 6).trans rfl; have hfz42_0 := blk_frozen BK181.out 0; have hfz42_1 := blk_frozen BK181.out 1; have hfz42_2 := blk_frozen BK181.out 2; have hfz42_3 := blk_frozen BK181.out 3; have hfz42_4 := blk_frozen BK181.out 4; have hfz42_5 := blk_frozen BK181.out 5; have hfz42_6 := blk_frozen BK181.out 6; have hcz43_0 : w41.cell? ⟨gb185, 0, none⟩ = some (.int .i64 t182) := (blk_cell BK185.out 0).trans rfl; have hcz43_1 : w41.cell? ⟨gb185, 1, none⟩ = some (.int .i64 t183) := (blk_cell BK185.out 1).trans rfl; have hcz43_2 : w41.cell? ⟨gb185, 2, none⟩ = some (.int .i64 t184) := (blk_cell BK185.out 2).trans rfl; have hfz43_0 := blk_frozen BK185.out 0; have hfz43_1 := blk_frozen BK185.out 1; have hfz43_2 := blk_frozen BK185.out 2) | (go_at_call 20; (with_reducible refine (plan_Reserved.calls a0_0 a0_1 a0_2 a0_3 a0_4 a0_5 a0_6 t183 t184 t192 _ A38.out).mono ?_); rintro e w44 ⟨rfl, hb⟩; have n0_ := Aside0.mk (blk_below (g := gb181) (o := .cells #[.int .i64 a0_0, .int .i64 a0_1, .int .i64 a0_2, .int .i64 a0_3, .int .i64 a0_4, .int .i64 a0_5, .int .i64 a0_6] 23 (0, 0)) (by (with_reducible repeat (first | refine blk_drewN ?_ _ | refine blk_drew ?_ | refine blk_alloc ?_ _)); exact BK181.out) hb); have n1_ := Aside0.mk (blk_below (g := gb185) (o := .cells #[.int .i64 t182, .int .i64 t183, .int .i64 t184] 29 (0, 0)) (by (with_reducible repeat (first | refine blk_drewN ?_ _ | refine blk_drew ?_ | refine blk_alloc ?_ _)); exact BK185.out) hb); have n2_ := Aside0.mk (below_step (by repeat (first | (with_reducible first | exact HB.out | apply below_alloc | apply pw_below_drewN | apply below_drew1 | refine below_set ?_ GE181.out | refine below_set ?_ GE185.out) | exact HB.out)) hb); clear BK181; clear BK185; clear HB; have BK181 := n0_; have BK185 := n1_; have HB := n2_; clear n0_ n1_ n2_; (try clear hb); (try clear hb2); (try clear hk); (try clear hi)))
              go_ret
              exact ⟨by first | rfl | (simp [errW_none, errW_some] <;> rfl) | (simp [*, errW_none, errW_some] <;> rfl), by repeat (first | (with_reducible first | exact HB.out | apply below_alloc | apply pw_below_drewN | apply below_drew1 | refine below_set ?_ GE181.out | refine below_set ?_ GE185.out) | exact HB.out)⟩
            · replace c37 := Bool.eq_false_iff.mpr c37
              subst c37
              have H1 : (some false) = some r := by rw [if_neg (show ¬ (false = true) by decide)] at H; exact H
              clear H
              have H := H1
              clear H1
              obtain rfl := Option.some.inj H
              have hnb45 := NB185_181.out
              have hnc45 := NB181_185.out
              have hcz46_0 : wc.cell? ⟨gb185, 0, none⟩ = some (.int .i64 t182) := (blk_cell BK185.out 0).trans rfl
              have hcz46_1 : wc.cell? ⟨gb185, 1, none⟩ = some (.int .i64 t183) := (blk_cell BK185.out 1).trans rfl
              have hcz46_2 : wc.cell? ⟨gb185, 2, none⟩ = some (.int .i64 t184) := (blk_cell BK185.out 2).trans rfl
              have hfz46_0 := blk_frozen BK185.out 0
              have hfz46_1 := blk_frozen BK185.out 1
              have hfz46_2 := blk_frozen BK185.out 2
              go_wp2_with (first | ((with_reducible refine gate_callee (f := 15) rfl ?_); refine goesL_ (some 39) rfl rfl Try.func15 (by kernel_rfl) rfl #[] rfl (by (try simp only [List.map_toArray, List.map_cons, List.map_nil]); first | done | rfl | (simp only [List.length_drop, List.length_take]; rfl)) ?_; (with_reducible refine (stepstonelaw04_alive.calls  false _ A36.out).mono ?_); rintro e w47 ⟨rfl, hb⟩; refine ⟨_, rfl, ?_⟩; have n0_ := Aside0.mk (blk_below (g := gb181) (o := .cells #[.int .i64 a0_0, .int .i64 a0_1, .int .i64 a0_2, .int .i64 a0_3, .int .i64 a0_4, .int .i64 a0_5, .int .i64 a0_6] 23 (0, 0)) (by (with_reducible repeat (first | refine blk_drewN ?_ _ | refine blk_drew ?_ | refine blk_alloc ?_ _)); exact BK181.out) hb); have n1_ := Aside0.mk (blk_below (g := gb185) (o := .cells #[.int .i64 t182, .int .i64 t183, .int .i64 t184] 29 (0, 0)) (by (with_reducible repeat (first | refine blk_drewN ?_ _ | refine blk_drew ?_ | refine blk_alloc ?_ _)); exact BK185.out) hb); have n2_ := Aside0.mk (below_step (by repeat (first | (with_reducible first | exact HB.out | apply below_alloc | apply pw_below_drewN | apply below_drew1 | refine below_set ?_ GE181.out | refine below_set ?_ GE185.out) | exact HB.out)) hb); clear BK181; clear BK185; clear HB; have BK181 := n0_; have BK185 := n1_; have HB := n2_; clear n0_ n1_ n2_; (try clear hb); (try clear hb2); (try clear hk); (try clear hi)))
              go_ret
              exact ⟨by first | rfl | (simp [errW_none, errW_some] <;> rfl) | (simp [*, errW_none, errW_some] <;> rfl), by repeat (first | (with_reducible first | exact HB.out | apply below_alloc | apply pw_below_drewN | apply below_drew1 | refine below_set ?_ GE181.out | refine below_set ?_ GE185.out) | exact HB.out)⟩
          · rw [if_neg c35] at H
            have c35b0 : (t182 == 2) = false := beq_eq_false_iff_ne.mpr c35
            have c35b1 : (t182 != 2) = true := bne_iff_ne.mpr c35
            by_cases c48 : t182 = 3
            · rw [if_pos c48] at H
              have c48b0 : (t182 == 3) = true := beq_iff_eq.mpr c48
              have c48b1 : (t182 != 3) = false := bne_eq_false_iff_eq.mpr c48
              clear c48
              replace H := Option.bind_eq_some_iff.mp H
              obtain ⟨t193, A490, H⟩ := H
              replace H : (if t193 = true then ((plan_Cell.f kj3 a0_0 a0_1 a0_2 a0_3 a0_4 a0_5 a0_6 t183 t184).bind fun t194 => (some (t194 == a1))) else (some false)) = some r := H
              have A49 := Aside0.mk A490
              clear A490
              by_cases c50 : t193 = true
              · subst c50
                have H1 : ((plan_Cell.f kj3 a0_0 a0_1 a0_2 a0_3 a0_4 a0_5 a0_6 t183 t184).bind fun t194 => (some (t194 == a1))) = some r := by rw [if_pos rfl] at H; exact H
                clear H
                have H := H1
                clear H1
                replace H := Option.bind_eq_some_iff.mp H
                obtain ⟨t194, A510, H⟩ := H
                replace H : (some (t194 == a1)) = some r := H
                have A51 := Aside0.mk A510
                clear A510
                obtain rfl := Option.some.inj H
                have hnb52 := NB185_181.out
                have hnc52 := NB181_185.out
                have hcz53_0 : wc.cell? ⟨gb185, 0, none⟩ = some (.int .i64 t182) := (blk_cell BK185.out 0).trans rfl
                have hcz53_1 : wc.cell? ⟨gb185, 1, none⟩ = some (.int .i64 t183) := (blk_cell BK185.out 1).trans rfl
                have hcz53_2 : wc.cell? ⟨gb185, 2, none⟩ = some (.int .i64 t184) := (blk_cell BK185.out 2).trans rfl
                have hfz53_0 := blk_frozen BK185.out 0
                have hfz53_1 := blk_frozen BK185.out 1
                have hfz53_2 := blk_frozen BK185.out 2
                go_wp2_with (first | ((with_reducible refine gate_callee (f := 15) rfl ?_); refine goesL_ (some 52) rfl rfl Try.func15 (by kernel_rfl) rfl #[] rfl (by (try simp only [List.map_toArray, List.map_cons, List.map_nil]); first | done | rfl | (simp only [List.length_drop, List.length_take]; rfl)) ?_; (with_reducible refine (stepstonelaw04_alive.calls  true _ A49.out).mono ?_); rintro e w54 ⟨rfl, hb⟩; refine ⟨_, rfl, ?_⟩; have n0_ := Aside0.mk (blk_below (g := gb181) (o := .cells #[.int .i64 a0_0, .int .i64 a0_1, .int .i64 a0_2, .int .i64 a0_3, .int .i64 a0_4, .int .i64 a0_5, .int .i64 a0_6] 23 (0, 0)) (by (with_reducible repeat (first | refine blk_drewN ?_ _ | refine blk_drew ?_ | refine blk_alloc ?_ _)); exact BK181.out) hb); have n1_ := Aside0.mk (blk_below (g := gb185) (o := .cells #[.int .i64 t182, .int .i64 t183, .int .i64 t184] 29 (0, 0)) (by (with_reducible repeat (first | refine blk_drewN ?_ _ | refine blk_drew ?_ | refine blk_alloc ?_ _)); exact BK185.out) hb); have n2_ := Aside0.mk (below_step (by repeat (first | (with_reducible first | exact HB.out | apply below_alloc | apply pw_below_drewN | apply below_drew1 | refine below_set ?_ GE181.out | refine below_set ?_ GE185.out) | exact HB.out)) hb); clear BK181; clear BK185; clear HB; have BK181 := n0_; have BK185 := n1_; have HB := n2_; clear n0_ n1_ n2_; (try clear hb); (try clear hb2); (try clear hk); (try clear hi); have hcz55_0 : w54.cell? ⟨gb181, 0, none⟩ = some (.int .i64 a0_0) := (blk_cell BK181.out 0).trans rfl; have hcz55_1 : w54.cell? ⟨gb181, 1, none⟩ = some (.int .i64 a0_1) := (blk_cell BK181.out 1).trans rfl; have hcz55_2 : w54.cell? ⟨gb181, 2, none⟩ = some (.int .i64 a0_2) := (blk_cell BK181.out 2).trans rfl; have hcz55_3 : w54.cell? ⟨gb181, 3, none⟩ = some (.int .i64 a0_3) := (blk_cell BK181.out 3).trans rfl; have hcz55_4 : w54.cell? ⟨gb181, 4, none⟩ = some (.int .i64 a0_4) := (blk_cell BK181.out 4).trans rfl; have hcz55_5 : w54.cell? ⟨gb181, 5, none⟩ = some (.int .i64 a0_5) := (blk_cell BK181.out 5).trans rfl; have hcz55_6 : w54.cell? ⟨gb181, 6, none⟩ = some (.int .i64 a0_6) := (blk_cell BK181.out 6).trans rfl; have hfz55_0 := blk_frozen BK181.out 0; have hfz55_1 := blk_frozen BK181.out 1; have hfz55_2 := blk_frozen BK181.out 2; have hfz55_3 := blk_frozen BK181.out 3; have hfz55_4 := blk_frozen BK181.out 4; have hfz55_5 := blk_frozen BK181.out 5; have hfz55_6 := blk_frozen BK181.out 6; have hcz56_0 : w54.cell? ⟨gb185, 0, none⟩ = some (.int .i64 t182) := (blk_cell BK185.out 0).trans rfl; have hcz56_1 : w54.cell? ⟨gb185, 1, none⟩ = some (.int .i64 t183) := (blk_cell BK185.out 1).trans rfl; have hcz56_2 : w54.cell? ⟨gb185, 2, none⟩ = some (.int .i64 t184) := (blk_cell BK185.out 2).trans rfl; have hfz56_0 := blk_frozen BK185.out 0; have hfz56_1 := blk_frozen BK185.out 1; have hfz56_2 := blk_frozen BK185.out 2) | (go_at_call 21; (with_reducible refine (plan_Cell.calls kj3 a0_0 a0_1 a0_2 a0_3 a0_4 a0_5 a0_6 t183 t184 t194 _ A51.out).mono ?_); rintro e w57 ⟨rfl, hb⟩; have n0_ := Aside0.mk (blk_below (g := gb181) (o := .cells #[.int .i64 a0_0, .int .i64 a0_1, .int .i64 a0_2, .int .i64 a0_3, .int .i64 a0_4, .int .i64 a0_5, .int .i64 a0_6] 23 (0, 0)) (by (with_reducible repeat (first | refine blk_drewN ?_ _ | refine blk_drew ?_ | refine blk_alloc ?_ _)); exact BK181.out) hb); have n1_ := Aside0.mk (blk_below (g := gb185) (o := .cells #[.int .i64 t182, .int .i64 t183, .int .i64 t184] 29 (0, 0)) (by (with_reducible repeat (first | refine blk_drewN ?_ _ | refine blk_drew ?_ | refine blk_alloc ?_ _)); exact BK185.out) hb); have n2_ := Aside0.mk (below_step (by repeat (first | (with_reducible first | exact HB.out | apply below_alloc | apply pw_below_drewN | apply below_drew1 | refine below_set ?_ GE181.out | refine below_set ?_ GE185.out) | exact HB.out)) hb); clear BK181; clear BK185; clear HB; have BK181 := n0_; have BK185 := n1_; have HB := n2_; clear n0_ n1_ n2_; (try clear hb); (try clear hb2); (try clear hk); (try clear hi)))
                go_ret
                exact ⟨by first | rfl | (simp [errW_none, errW_some] <;> rfl) | (simp [*, errW_none, errW_some] <;> rfl), by repeat (first | (with_reducible first | exact HB.out | apply below_alloc | apply pw_below_drewN | apply below_drew1 | refine below_set ?_ GE181.out | refine below_set ?_ GE185.out) | exact HB.out)⟩
              · replace c50 := Bool.eq_false_iff.mpr c50
                subst c50
                have H1 : (some false) = some r := by rw [if_neg (show ¬ (false = true) by decide)] at H; exact H
                clear H
                have H := H1
                clear H1
                obtain rfl := Option.some.inj H
                have hnb58 := NB185_181.out
                have hnc58 := NB181_185.out
                have hcz59_0 : wc.cell? ⟨gb185, 0, none⟩ = some (.int .i64 t182) := (blk_cell BK185.out 0).trans rfl
                have hcz59_1 : wc.cell? ⟨gb185, 1, none⟩ = some (.int .i64 t183) := (blk_cell BK185.out 1).trans rfl
                have hcz59_2 : wc.cell? ⟨gb185, 2, none⟩ = some (.int .i64 t184) := (blk_cell BK185.out 2).trans rfl
                have hfz59_0 := blk_frozen BK185.out 0
                have hfz59_1 := blk_frozen BK185.out 1
                have hfz59_2 := blk_frozen BK185.out 2
                go_wp2_with (first | ((with_reducible refine gate_callee (f := 15) rfl ?_); refine goesL_ (some 52) rfl rfl Try.func15 (by kernel_rfl) rfl #[] rfl (by (try simp only [List.map_toArray, List.map_cons, List.map_nil]); first | done | rfl | (simp only [List.length_drop, List.length_take]; rfl)) ?_; (with_reducible refine (stepstonelaw04_alive.calls  false _ A49.out).mono ?_); rintro e w60 ⟨rfl, hb⟩; refine ⟨_, rfl, ?_⟩; have n0_ := Aside0.mk (blk_below (g := gb181) (o := .cells #[.int .i64 a0_0, .int .i64 a0_1, .int .i64 a0_2, .int .i64 a0_3, .int .i64 a0_4, .int .i64 a0_5, .int .i64 a0_6] 23 (0, 0)) (by (with_reducible repeat (first | refine blk_drewN ?_ _ | refine blk_drew ?_ | refine blk_alloc ?_ _)); exact BK181.out) hb); have n1_ := Aside0.mk (blk_below (g := gb185) (o := .cells #[.int .i64 t182, .int .i64 t183, .int .i64 t184] 29 (0, 0)) (by (with_reducible repeat (first | refine blk_drewN ?_ _ | refine blk_drew ?_ | refine blk_alloc ?_ _)); exact BK185.out) hb); have n2_ := Aside0.mk (below_step (by repeat (first | (with_reducible first | exact HB.out | apply below_alloc | apply pw_below_drewN | apply below_drew1 | refine below_set ?_ GE181.out | refine below_set ?_ GE185.out) | exact HB.out)) hb); clear BK181; clear BK185; clear HB; have BK181 := n0_; have BK185 := n1_; have HB := n2_; clear n0_ n1_ n2_; (try clear hb); (try clear hb2); (try clear hk); (try clear hi)))
                go_ret
                exact ⟨by first | rfl | (simp [errW_none, errW_some] <;> rfl) | (simp [*, errW_none, errW_some] <;> rfl), by repeat (first | (with_reducible first | exact HB.out | apply below_alloc | apply pw_below_drewN | apply below_drew1 | refine below_set ?_ GE181.out | refine below_set ?_ GE185.out) | exact HB.out)⟩
            · rw [if_neg c48] at H
              have c48b0 : (t182 == 3) = false := beq_eq_false_iff_ne.mpr c48
              have c48b1 : (t182 != 3) = true := bne_iff_ne.mpr c48
              replace H := Option.bind_eq_some_iff.mp H
              obtain ⟨t195, A610, H⟩ := H
              replace H : (if t195 = true then (some (t182 == 0 && (t183 == 0 && (t184 == 0)))) else (some false)) = some r := H
              have A61 := Aside0.mk A610
              clear A610
              by_cases c62 : t195 = true
              · subst c62
                have H1 : (some (t182 == 0 && (t183 == 0 && (t184 == 0)))) = some r := by rw [if_pos rfl] at H; exact H
                clear H
                have H := H1
                clear H1
                obtain rfl := Option.some.inj H
                have hnb63 := NB185_181.out
                have hnc63 := NB181_185.out
                have hcz64_0 : wc.cell? ⟨gb185, 0, none⟩ = some (.int .i64 t182) := (blk_cell BK185.out 0).trans rfl
                have hcz64_1 : wc.cell? ⟨gb185, 1, none⟩ = some (.int .i64 t183) := (blk_cell BK185.out 1).trans rfl
                have hcz64_2 : wc.cell? ⟨gb185, 2, none⟩ = some (.int .i64 t184) := (blk_cell BK185.out 2).trans rfl
                have hfz64_0 := blk_frozen BK185.out 0
                have hfz64_1 := blk_frozen BK185.out 1
                have hfz64_2 := blk_frozen BK185.out 2
                go_wp2_with (first | ((with_reducible refine gate_callee (f := 15) rfl ?_); refine goesL_ (some 63) rfl rfl Try.func15 (by kernel_rfl) rfl #[] rfl (by (try simp only [List.map_toArray, List.map_cons, List.map_nil]); first | done | rfl | (simp only [List.length_drop, List.length_take]; rfl)) ?_; (with_reducible refine (stepstonelaw04_alive.calls  true _ A61.out).mono ?_); rintro e w65 ⟨rfl, hb⟩; refine ⟨_, rfl, ?_⟩; have n0_ := Aside0.mk (blk_below (g := gb181) (o := .cells #[.int .i64 a0_0, .int .i64 a0_1, .int .i64 a0_2, .int .i64 a0_3, .int .i64 a0_4, .int .i64 a0_5, .int .i64 a0_6] 23 (0, 0)) (by (with_reducible repeat (first | refine blk_drewN ?_ _ | refine blk_drew ?_ | refine blk_alloc ?_ _)); exact BK181.out) hb); have n1_ := Aside0.mk (blk_below (g := gb185) (o := .cells #[.int .i64 t182, .int .i64 t183, .int .i64 t184] 29 (0, 0)) (by (with_reducible repeat (first | refine blk_drewN ?_ _ | refine blk_drew ?_ | refine blk_alloc ?_ _)); exact BK185.out) hb); have n2_ := Aside0.mk (below_step (by repeat (first | (with_reducible first | exact HB.out | apply below_alloc | apply pw_below_drewN | apply below_drew1 | refine below_set ?_ GE181.out | refine below_set ?_ GE185.out) | exact HB.out)) hb); clear BK181; clear BK185; clear HB; have BK181 := n0_; have BK185 := n1_; have HB := n2_; clear n0_ n1_ n2_; (try clear hb); (try clear hb2); (try clear hk); (try clear hi); have hcz66_0 : w65.cell? ⟨gb185, 0, none⟩ = some (.int .i64 t182) := (blk_cell BK185.out 0).trans rfl; have hcz66_1 : w65.cell? ⟨gb185, 1, none⟩ = some (.int .i64 t183) := (blk_cell BK185.out 1).trans rfl; have hcz66_2 : w65.cell? ⟨gb185, 2, none⟩ = some (.int .i64 t184) := (blk_cell BK185.out 2).trans rfl; have hfz66_0 := blk_frozen BK185.out 0; have hfz66_1 := blk_frozen BK185.out 1; have hfz66_2 := blk_frozen BK185.out 2))
                go_ret
                exact ⟨by first | rfl | (simp [errW_none, errW_some] <;> rfl) | (simp [*, errW_none, errW_some] <;> rfl), by repeat (first | (with_reducible first | exact HB.out | apply below_alloc | apply pw_below_drewN | apply below_drew1 | refine below_set ?_ GE181.out | refine below_set ?_ GE185.out) | exact HB.out)⟩
              · replace c62 := Bool.eq_false_iff.mpr c62
                subst c62
                have H1 : (some false) = some r := by rw [if_neg (show ¬ (false = true) by decide)] at H; exact H
                clear H
                have H := H1
                clear H1
                obtain rfl := Option.some.inj H
                have hnb67 := NB185_181.out
                have hnc67 := NB181_185.out
                have hcz68_0 : wc.cell? ⟨gb185, 0, none⟩ = some (.int .i64 t182) := (blk_cell BK185.out 0).trans rfl
                have hcz68_1 : wc.cell? ⟨gb185, 1, none⟩ = some (.int .i64 t183) := (blk_cell BK185.out 1).trans rfl
                have hcz68_2 : wc.cell? ⟨gb185, 2, none⟩ = some (.int .i64 t184) := (blk_cell BK185.out 2).trans rfl
                have hfz68_0 := blk_frozen BK185.out 0
                have hfz68_1 := blk_frozen BK185.out 1
                have hfz68_2 := blk_frozen BK185.out 2
                go_wp2_with (first | ((with_reducible refine gate_callee (f := 15) rfl ?_); refine goesL_ (some 63) rfl rfl Try.func15 (by kernel_rfl) rfl #[] rfl (by (try simp only [List.map_toArray, List.map_cons, List.map_nil]); first | done | rfl | (simp only [List.length_drop, List.length_take]; rfl)) ?_; (with_reducible refine (stepstonelaw04_alive.calls  false _ A61.out).mono ?_); rintro e w69 ⟨rfl, hb⟩; refine ⟨_, rfl, ?_⟩; have n0_ := Aside0.mk (blk_below (g := gb181) (o := .cells #[.int .i64 a0_0, .int .i64 a0_1, .int .i64 a0_2, .int .i64 a0_3, .int .i64 a0_4, .int .i64 a0_5, .int .i64 a0_6] 23 (0, 0)) (by (with_reducible repeat (first | refine blk_drewN ?_ _ | refine blk_drew ?_ | refine blk_alloc ?_ _)); exact BK181.out) hb); have n1_ := Aside0.mk (blk_below (g := gb185) (o := .cells #[.int .i64 t182, .int .i64 t183, .int .i64 t184] 29 (0, 0)) (by (with_reducible repeat (first | refine blk_drewN ?_ _ | refine blk_drew ?_ | refine blk_alloc ?_ _)); exact BK185.out) hb); have n2_ := Aside0.mk (below_step (by repeat (first | (with_reducible first | exact HB.out | apply below_alloc | apply pw_below_drewN | apply below_drew1 | refine below_set ?_ GE181.out | refine below_set ?_ GE185.out) | exact HB.out)) hb); clear BK181; clear BK185; clear HB; have BK181 := n0_; have BK185 := n1_; have HB := n2_; clear n0_ n1_ n2_; (try clear hb); (try clear hb2); (try clear hk); (try clear hi)))
                go_ret
                exact ⟨by first | rfl | (simp [errW_none, errW_some] <;> rfl) | (simp [*, errW_none, errW_some] <;> rfl), by repeat (first | (with_reducible first | exact HB.out | apply below_alloc | apply pw_below_drewN | apply below_drew1 | refine below_set ?_ GE181.out | refine below_set ?_ GE185.out) | exact HB.out)⟩

end Go.Proofs.Ythbkncklliiooaa.Q
