-- PRINTED by print.py (a twelfth state) out of the translation. Not trusted: Lean checks it.
import Derived.Test.YthbkncklliiooaaQx0
import Derived.Test.YthbkncklliiooaaQx8
namespace Go.Proofs.Ythbkncklliiooaa.Q
open Go.RowKit Go.Proofs.YthbkncklliiooaaW.PrintWords Go.Proofs.YthbkncklliiooaaW.PrintLast Go.Proofs.YthbkncklliiooaaW.PrintMore
attribute [local go_sem] max2_int min2_int max_two min_two max_three min_three max_four min_four   -- for this text's walks alone
set_option linter.unusedVariables false
set_option linter.unusedSimpArgs false
/-! ### stepstoneref11_Right: function 36 -/
mutual
def stepstoneref11_Right.j0 : Nat → List (S69) → Bool → Int → Int → Int → Int → Int → Int → Int → Option (Bool)
 | 0, _, _, _, _, _, _, _, _, _ => none
 | k + 1, x1, x15, x356000, x356001, x356002, x356003, x356004, x356005, x356006 => if x15 = true then (some false) else (stepstoneref11_Right.l0 k x1 0 x356000 x356001 x356002 x356003 x356004 x356005 x356006)
def stepstoneref11_Right.l0 : Nat → List (S69) → Int → Int → Int → Int → Int → Int → Int → Int → Option (Bool)
 | 0, _, _, _, _, _, _, _, _, _ => none
 | k + 1, x1, x5, x356000, x356001, x356002, x356003, x356004, x356005, x356006 => if x5 < (x1.length : Int) then (if 0 ≤ x5 then (if ((rd_T69 x1 x5).f2) < 1 then (stepstoneref11_Right.j2 k x1 x5 true x356000 x356001 x356002 x356003 x356004 x356005 x356006) else (if ((rd_T69 x1 x5).f2) > x356003 then (stepstoneref11_Right.j2 k x1 x5 true x356000 x356001 x356002 x356003 x356004 x356005 x356006) else (if ((rd_T69 x1 x5).f3) < 0 then (stepstoneref11_Right.j2 k x1 x5 true x356000 x356001 x356002 x356003 x356004 x356005 x356006) else (if ((rd_T69 x1 x5).f3) > ((rd_T69 x1 x5).f2) then (stepstoneref11_Right.j2 k x1 x5 true x356000 x356001 x356002 x356003 x356004 x356005 x356006) else (if ((rd_T69 x1 x5).f3) > 0 then (if ((rd_T69 x1 x5).f4 = true) then (stepstoneref11_Right.j2 k x1 x5 (decide (((rd_T69 x1 x5).f1) ≥ 9223372036854775808)) x356000 x356001 x356002 x356003 x356004 x356005 x356006) else (stepstoneref11_Right.j2 k x1 x5 true x356000 x356001 x356002 x356003 x356004 x356005 x356006)) else (stepstoneref11_Right.j2 k x1 x5 (decide (((rd_T69 x1 x5).f1) ≥ 9223372036854775808)) x356000 x356001 x356002 x356003 x356004 x356005 x356006)))))) else (none)) else (some true)
def stepstoneref11_Right.j2 : Nat → List (S69) → Int → Bool → Int → Int → Int → Int → Int → Int → Int → Option (Bool)
 | 0, _, _, _, _, _, _, _, _, _, _ => none
 | k + 1, x1, x5, x82, x356000, x356001, x356002, x356003, x356004, x356005, x356006 => if x82 = true then (some false) else (if x5 > 0 then (if 0 ≤ (wrap64 (x5 - 1)) then (if (wrap64 (x5 - 1)) < (x1.length : Int) then (if 0 ≤ x5 then (if x5 < (x1.length : Int) then (if ((rd_T69 x1 (wrap64 (x5 - 1))).f0) ≥ ((rd_T69 x1 x5).f0) then (some false) else (stepstoneref11_Right.l0 k x1 (wrap64 (x5 + 1)) x356000 x356001 x356002 x356003 x356004 x356005 x356006)) else (none)) else (none)) else (none)) else (none)) else (stepstoneref11_Right.l0 k x1 (wrap64 (x5 + 1)) x356000 x356001 x356002 x356003 x356004 x356005 x356006))
end
def stepstoneref11_Right.f (k : Nat) (a0_0 : Int) (a0_1 : Int) (a0_2 : Int) (a0_3 : Int) (a0_4 : Int) (a0_5 : Int) (a0_6 : Int) (l1 : List (S69)) : Option (Bool) := (stepstoneref04_Right.f a0_0 a0_1 a0_2 a0_3 a0_4 a0_5 a0_6).bind fun t356 => (if t356 = true then (stepstoneref11_Right.j0 k l1 (decide ((l1.length : Int) > a0_2)) a0_0 a0_1 a0_2 a0_3 a0_4 a0_5 a0_6) else (stepstoneref11_Right.j0 k l1 true a0_0 a0_1 a0_2 a0_3 a0_4 a0_5 a0_6))
theorem stepstoneref11_Right.mono_l : ∀ k, (∀ y0 y1 y2 y3 y4 y5 y6 y7 y8, LeO (stepstoneref11_Right.j0 k y0 y1 y2 y3 y4 y5 y6 y7 y8) (stepstoneref11_Right.j0 (k + 1) y0 y1 y2 y3 y4 y5 y6 y7 y8)) ∧ (∀ y0 y1 y2 y3 y4 y5 y6 y7 y8, LeO (stepstoneref11_Right.l0 k y0 y1 y2 y3 y4 y5 y6 y7 y8) (stepstoneref11_Right.l0 (k + 1) y0 y1 y2 y3 y4 y5 y6 y7 y8)) ∧ (∀ y0 y1 y2 y3 y4 y5 y6 y7 y8 y9, LeO (stepstoneref11_Right.j2 k y0 y1 y2 y3 y4 y5 y6 y7 y8 y9) (stepstoneref11_Right.j2 (k + 1) y0 y1 y2 y3 y4 y5 y6 y7 y8 y9))
 | 0 => ⟨fun _ _ _ _ _ _ _ _ _ r h => by simp [stepstoneref11_Right.j0] at h, fun _ _ _ _ _ _ _ _ _ r h => by simp [stepstoneref11_Right.l0] at h, fun _ _ _ _ _ _ _ _ _ _ r h => by simp [stepstoneref11_Right.j2] at h⟩
 | k + 1 => by
  obtain ⟨ih0, ih1, ih2⟩ := stepstoneref11_Right.mono_l k
  refine ⟨?_, ?_, ?_⟩
  ·intro y0 y1 y2 y3 y4 y5 y6 y7 y8
   unfold stepstoneref11_Right.j0
   repeat' first
   | (with_reducible exact ih0 _ _ _ _ _ _ _ _ _)
   | (with_reducible exact ih1 _ _ _ _ _ _ _ _ _)
   | (with_reducible exact ih2 _ _ _ _ _ _ _ _ _ _)
   | (with_reducible exact LeO.refl _)
   | (with_reducible exact LeO.none _)
   | (with_reducible refine LeO.ite ?_ ?_)
   | (with_reducible refine LeO.bind ?_ (fun _ => ?_))
   | exact ih0 _ _ _ _ _ _ _ _ _
   | exact ih1 _ _ _ _ _ _ _ _ _
   | exact ih2 _ _ _ _ _ _ _ _ _ _
   | exact LeO.none _
   | refine LeO.ite ?_ ?_
   | refine LeO.bind ?_ (fun _ => ?_)
  ·intro y0 y1 y2 y3 y4 y5 y6 y7 y8
   unfold stepstoneref11_Right.l0
   repeat' first
   | (with_reducible exact ih0 _ _ _ _ _ _ _ _ _)
   | (with_reducible exact ih1 _ _ _ _ _ _ _ _ _)
   | (with_reducible exact ih2 _ _ _ _ _ _ _ _ _ _)
   | (with_reducible exact LeO.refl _)
   | (with_reducible exact LeO.none _)
   | (with_reducible refine LeO.ite ?_ ?_)
   | (with_reducible refine LeO.bind ?_ (fun _ => ?_))
   | exact ih0 _ _ _ _ _ _ _ _ _
   | exact ih1 _ _ _ _ _ _ _ _ _
   | exact ih2 _ _ _ _ _ _ _ _ _ _
   | exact LeO.none _
   | refine LeO.ite ?_ ?_
   | refine LeO.bind ?_ (fun _ => ?_)
  ·intro y0 y1 y2 y3 y4 y5 y6 y7 y8 y9
   unfold stepstoneref11_Right.j2
   repeat' first
   | (with_reducible exact ih0 _ _ _ _ _ _ _ _ _)
   | (with_reducible exact ih1 _ _ _ _ _ _ _ _ _)
   | (with_reducible exact ih2 _ _ _ _ _ _ _ _ _ _)
   | (with_reducible exact LeO.refl _)
   | (with_reducible exact LeO.none _)
   | (with_reducible refine LeO.ite ?_ ?_)
   | (with_reducible refine LeO.bind ?_ (fun _ => ?_))
   | exact ih0 _ _ _ _ _ _ _ _ _
   | exact ih1 _ _ _ _ _ _ _ _ _
   | exact ih2 _ _ _ _ _ _ _ _ _ _
   | exact LeO.none _
   | refine LeO.ite ?_ ?_
   | refine LeO.bind ?_ (fun _ => ?_)
theorem stepstoneref11_Right.mono : ∀ a0 a1 a2 a3 a4 a5 a6 a7 k, LeO (stepstoneref11_Right.f k a0 a1 a2 a3 a4 a5 a6 a7) (stepstoneref11_Right.f (k + 1) a0 a1 a2 a3 a4 a5 a6 a7) := by
 intro a0 a1 a2 a3 a4 a5 a6 a7 k
 obtain ⟨ih0, ih1, ih2⟩ := stepstoneref11_Right.mono_l k
 unfold stepstoneref11_Right.f
 repeat' first
   | (with_reducible exact ih0 _ _ _ _ _ _ _ _ _)
   | (with_reducible exact ih1 _ _ _ _ _ _ _ _ _)
   | (with_reducible exact ih2 _ _ _ _ _ _ _ _ _ _)
   | (with_reducible exact LeO.refl _)
   | (with_reducible exact LeO.none _)
   | (with_reducible refine LeO.ite ?_ ?_)
   | (with_reducible refine LeO.bind ?_ (fun _ => ?_))
   | exact ih0 _ _ _ _ _ _ _ _ _
   | exact ih1 _ _ _ _ _ _ _ _ _
   | exact ih2 _ _ _ _ _ _ _ _ _ _
   | exact LeO.none _
   | refine LeO.ite ?_ ?_
   | refine LeO.bind ?_ (fun _ => ?_)
set_option maxHeartbeats 8000000 in
set_option maxRecDepth 100000 in
theorem stepstoneref11_Right.calls (k : Nat) (a0_0 : Int) (a0_1 : Int) (a0_2 : Int) (a0_3 : Int) (a0_4 : Int) (a0_5 : Int) (a0_6 : Int) (A1 : Option Addr) (c1 : Nat) (l1 : List (S69)) (r : Bool) (w : World) (hr1 : Kd.C k69 w A1 l1.length l1) (hc1 : l1.length ≤ c1) (h : stepstoneref11_Right.f k a0_0 a0_1 a0_2 a0_3 a0_4 a0_5 a0_6 l1 = some r) :
  Calls Try.prog 36 #[.agg #[.int .i64 a0_0, .int .i64 a0_1, .int .i64 a0_2, .int .i64 a0_3, .int .i64 a0_4, .int .i64 a0_5, .int .i64 a0_6], .slice A1 l1.length c1] w fun e w' => e = .returned (.bool r) ∧ Below w.heap.size w w' := by
 have hu23 := Try.underlying23
 have HR1 := Aside0.mk hr1
 have HC1 := Aside0.mk hc1
 clear hr1 hc1
 have HB := Aside0.mk (Below.refl w.heap.size w)
 have H : ((stepstoneref04_Right.f a0_0 a0_1 a0_2 a0_3 a0_4 a0_5 a0_6).bind fun t356 => (if t356 = true then (stepstoneref11_Right.j0 k l1 (decide ((l1.length : Int) > a0_2)) a0_0 a0_1 a0_2 a0_3 a0_4 a0_5 a0_6) else (stepstoneref11_Right.j0 k l1 true a0_0 a0_1 a0_2 a0_3 a0_4 a0_5 a0_6))) = some r := h
 clear h
 have HC3 := Aside0.mk H
 clear H
 go_enter Try.func36, Try.ntmps36
 go_upto_region 1 with (first | ((with_reducible refine gate_dst (N := 2) rfl ?_); (try (refine gate_guard (by rfl) ?_; dsimp only)); refine box_event ?hg (N := 2) ?hd (cs := #[.int .i64 a0_0, .int .i64 a0_1, .int .i64 a0_2, .int .i64 a0_3, .int .i64 a0_4, .int .i64 a0_5, .int .i64 a0_6]) (t := 23) ?hr ?_; (case hd => rfl); (case hg => rfl); (case hr => first | (go_simp; done) | (go_simp; rfl)); intro gb355 hg w4 hbox hb; have n0_ := Aside0.mk (below_step (by repeat (first | (with_reducible first | exact HB.out | apply below_alloc | apply pw_below_drewN | apply below_drew1) | exact HB.out)) hb); have n1_ := Aside0.mk (hbox); have n2_ := Aside0.mk ((by rw [hg]; exact (below_size (by repeat (first | (with_reducible first | exact HB.out | apply below_alloc | apply pw_below_drewN | apply below_drew1) | exact HB.out))) : w.heap.size ≤ gb355)); have n3_ := Aside0.mk ((by rw [hg]; exact (below_size (by repeat (first | (with_reducible first | exact HB.out | apply below_alloc | apply pw_below_drewN | apply below_drew1) | exact HB.out))) : w.heap.size ≤ gb355)); clear HB; have HB := n0_; have BK355 := n1_; have GW355 := n2_; have GE355 := n3_; clear n0_ n1_ n2_ n3_; clear hb hbox hg))
 repeat (go_quiet (first | ((with_reducible refine gate_dst (N := 2) rfl ?_); (try (refine gate_guard (by rfl) ?_; dsimp only)); refine box_event ?hg (N := 2) ?hd (cs := #[.int .i64 a0_0, .int .i64 a0_1, .int .i64 a0_2, .int .i64 a0_3, .int .i64 a0_4, .int .i64 a0_5, .int .i64 a0_6]) (t := 23) ?hr ?_; (case hd => rfl); (case hg => rfl); (case hr => first | (go_simp; done) | (go_simp; rfl)); intro gb355 hg w4 hbox hb; have n0_ := Aside0.mk (below_step (by repeat (first | (with_reducible first | exact HB.out | apply below_alloc | apply pw_below_drewN | apply below_drew1) | exact HB.out)) hb); have n1_ := Aside0.mk (hbox); have n2_ := Aside0.mk ((by rw [hg]; exact (below_size (by repeat (first | (with_reducible first | exact HB.out | apply below_alloc | apply pw_below_drewN | apply below_drew1) | exact HB.out))) : w.heap.size ≤ gb355)); have n3_ := Aside0.mk ((by rw [hg]; exact (below_size (by repeat (first | (with_reducible first | exact HB.out | apply below_alloc | apply pw_below_drewN | apply below_drew1) | exact HB.out))) : w.heap.size ≤ gb355)); clear HB; have HB := n0_; have BK355 := n1_; have GW355 := n2_; have GE355 := n3_; clear n0_ n1_ n2_ n3_; clear hb hbox hg)); go_upto_region 1 with (first | ((with_reducible refine gate_dst (N := 2) rfl ?_); (try (refine gate_guard (by rfl) ?_; dsimp only)); refine box_event ?hg (N := 2) ?hd (cs := #[.int .i64 a0_0, .int .i64 a0_1, .int .i64 a0_2, .int .i64 a0_3, .int .i64 a0_4, .int .i64 a0_5, .int .i64 a0_6]) (t := 23) ?hr ?_; (case hd => rfl); (case hg => rfl); (case hr => first | (go_simp; done) | (go_simp; rfl)); intro gb355 hg w4 hbox hb; have n0_ := Aside0.mk (below_step (by repeat (first | (with_reducible first | exact HB.out | apply below_alloc | apply pw_below_drewN | apply below_drew1) | exact HB.out)) hb); have n1_ := Aside0.mk (hbox); have n2_ := Aside0.mk ((by rw [hg]; exact (below_size (by repeat (first | (with_reducible first | exact HB.out | apply below_alloc | apply pw_below_drewN | apply below_drew1) | exact HB.out))) : w.heap.size ≤ gb355)); have n3_ := Aside0.mk ((by rw [hg]; exact (below_size (by repeat (first | (with_reducible first | exact HB.out | apply below_alloc | apply pw_below_drewN | apply below_drew1) | exact HB.out))) : w.heap.size ≤ gb355)); clear HB; have HB := n0_; have BK355 := n1_; have GW355 := n2_; have GE355 := n3_; clear n0_ n1_ n2_ n3_; clear hb hbox hg)))
 (try simp only [Act.put, List.setIfInBounds_toArray, List.set_cons_zero, List.set_cons_succ])
 go_cut [15] (fun v15 wc => ∃ (kq : Nat) (x15_2 : Bool), v15 = .bool x15_2 ∧ Aside0 (stepstoneref11_Right.j0 kq l1 x15_2 a0_0 a0_1 a0_2 a0_3 a0_4 a0_5 a0_6 = some r) ∧ Aside0 (kq ≤ k) ∧ Aside0 (wc.heap[gb355]? = some (.cells #[.int .i64 a0_0, .int .i64 a0_1, .int .i64 a0_2, .int .i64 a0_3, .int .i64 a0_4, .int .i64 a0_5, .int .i64 a0_6] 23 (0, 0))) ∧ Aside0 (Below w.heap.size w wc))
 case first =>
  have H := HC3.out
  clear HC3
  replace H := Option.bind_eq_some_iff.mp H
  obtain ⟨t356, A50, H⟩ := H
  replace H : (if t356 = true then (stepstoneref11_Right.j0 k l1 (decide ((l1.length : Int) > a0_2)) a0_0 a0_1 a0_2 a0_3 a0_4 a0_5 a0_6) else (stepstoneref11_Right.j0 k l1 true a0_0 a0_1 a0_2 a0_3 a0_4 a0_5 a0_6)) = some r := H
  have A5 := Aside0.mk A50
  clear A50
  by_cases c6 : t356 = true
  ·subst c6
   have H1 : (stepstoneref11_Right.j0 k l1 (decide ((l1.length : Int) > a0_2)) a0_0 a0_1 a0_2 a0_3 a0_4 a0_5 a0_6) = some r := by rw [if_pos rfl] at H; exact H
   clear H
   have H := H1
   clear H1
   have H' := Aside0.mk H
   clear H
   have hcz7_0 : w4.cell? ⟨gb355, 0, none⟩ = some (.int .i64 a0_0) := (blk_cell BK355.out 0).trans rfl
   have hcz7_1 : w4.cell? ⟨gb355, 1, none⟩ = some (.int .i64 a0_1) := (blk_cell BK355.out 1).trans rfl
   have hcz7_2 : w4.cell? ⟨gb355, 2, none⟩ = some (.int .i64 a0_2) := (blk_cell BK355.out 2).trans rfl
   have hcz7_3 : w4.cell? ⟨gb355, 3, none⟩ = some (.int .i64 a0_3) := (blk_cell BK355.out 3).trans rfl
   have hcz7_4 : w4.cell? ⟨gb355, 4, none⟩ = some (.int .i64 a0_4) := (blk_cell BK355.out 4).trans rfl
   have hcz7_5 : w4.cell? ⟨gb355, 5, none⟩ = some (.int .i64 a0_5) := (blk_cell BK355.out 5).trans rfl
   have hcz7_6 : w4.cell? ⟨gb355, 6, none⟩ = some (.int .i64 a0_6) := (blk_cell BK355.out 6).trans rfl
   have hfz7_0 := blk_frozen BK355.out 0
   have hfz7_1 := blk_frozen BK355.out 1
   have hfz7_2 := blk_frozen BK355.out 2
   have hfz7_3 := blk_frozen BK355.out 3
   have hfz7_4 := blk_frozen BK355.out 4
   have hfz7_5 := blk_frozen BK355.out 5
   have hfz7_6 := blk_frozen BK355.out 6
   go_wp2_with (first | (go_at_call 17; (with_reducible refine (stepstoneref04_Right.calls a0_0 a0_1 a0_2 a0_3 a0_4 a0_5 a0_6 true _ A5.out).mono ?_); rintro e w8 ⟨rfl, hb⟩; have n0_ := Aside0.mk (blk_below (g := gb355) (o := .cells #[.int .i64 a0_0, .int .i64 a0_1, .int .i64 a0_2, .int .i64 a0_3, .int .i64 a0_4, .int .i64 a0_5, .int .i64 a0_6] 23 (0, 0)) (by (with_reducible repeat (first | refine blk_drewN ?_ _ | refine blk_drew ?_ | refine blk_alloc ?_ _)); exact BK355.out) hb); have n1_ := Aside0.mk (below_step (by repeat (first | (with_reducible first | exact HB.out | apply below_alloc | apply pw_below_drewN | apply below_drew1 | refine below_set ?_ GE355.out) | exact HB.out)) hb); clear BK355; clear HB; have BK355 := n0_; have HB := n1_; clear n0_ n1_; (try clear hb); (try clear hb2); (try clear hk); (try clear hi); have hcz9_0 : w8.cell? ⟨gb355, 0, none⟩ = some (.int .i64 a0_0) := (blk_cell BK355.out 0).trans rfl; have hcz9_1 : w8.cell? ⟨gb355, 1, none⟩ = some (.int .i64 a0_1) := (blk_cell BK355.out 1).trans rfl; have hcz9_2 : w8.cell? ⟨gb355, 2, none⟩ = some (.int .i64 a0_2) := (blk_cell BK355.out 2).trans rfl; have hcz9_3 : w8.cell? ⟨gb355, 3, none⟩ = some (.int .i64 a0_3) := (blk_cell BK355.out 3).trans rfl; have hcz9_4 : w8.cell? ⟨gb355, 4, none⟩ = some (.int .i64 a0_4) := (blk_cell BK355.out 4).trans rfl; have hcz9_5 : w8.cell? ⟨gb355, 5, none⟩ = some (.int .i64 a0_5) := (blk_cell BK355.out 5).trans rfl; have hcz9_6 : w8.cell? ⟨gb355, 6, none⟩ = some (.int .i64 a0_6) := (blk_cell BK355.out 6).trans rfl; have hfz9_0 := blk_frozen BK355.out 0; have hfz9_1 := blk_frozen BK355.out 1; have hfz9_2 := blk_frozen BK355.out 2; have hfz9_3 := blk_frozen BK355.out 3; have hfz9_4 := blk_frozen BK355.out 4; have hfz9_5 := blk_frozen BK355.out 5; have hfz9_6 := blk_frozen BK355.out 6))
   repeat (go_quiet (first | (go_at_call 17; (with_reducible refine (stepstoneref04_Right.calls a0_0 a0_1 a0_2 a0_3 a0_4 a0_5 a0_6 true _ A5.out).mono ?_); rintro e w8 ⟨rfl, hb⟩; have n0_ := Aside0.mk (blk_below (g := gb355) (o := .cells #[.int .i64 a0_0, .int .i64 a0_1, .int .i64 a0_2, .int .i64 a0_3, .int .i64 a0_4, .int .i64 a0_5, .int .i64 a0_6] 23 (0, 0)) (by (with_reducible repeat (first | refine blk_drewN ?_ _ | refine blk_drew ?_ | refine blk_alloc ?_ _)); exact BK355.out) hb); have n1_ := Aside0.mk (below_step (by repeat (first | (with_reducible first | exact HB.out | apply below_alloc | apply pw_below_drewN | apply below_drew1 | refine below_set ?_ GE355.out) | exact HB.out)) hb); clear BK355; clear HB; have BK355 := n0_; have HB := n1_; clear n0_ n1_; (try clear hb); (try clear hb2); (try clear hk); (try clear hi); have hcz9_0 : w8.cell? ⟨gb355, 0, none⟩ = some (.int .i64 a0_0) := (blk_cell BK355.out 0).trans rfl; have hcz9_1 : w8.cell? ⟨gb355, 1, none⟩ = some (.int .i64 a0_1) := (blk_cell BK355.out 1).trans rfl; have hcz9_2 : w8.cell? ⟨gb355, 2, none⟩ = some (.int .i64 a0_2) := (blk_cell BK355.out 2).trans rfl; have hcz9_3 : w8.cell? ⟨gb355, 3, none⟩ = some (.int .i64 a0_3) := (blk_cell BK355.out 3).trans rfl; have hcz9_4 : w8.cell? ⟨gb355, 4, none⟩ = some (.int .i64 a0_4) := (blk_cell BK355.out 4).trans rfl; have hcz9_5 : w8.cell? ⟨gb355, 5, none⟩ = some (.int .i64 a0_5) := (blk_cell BK355.out 5).trans rfl; have hcz9_6 : w8.cell? ⟨gb355, 6, none⟩ = some (.int .i64 a0_6) := (blk_cell BK355.out 6).trans rfl; have hfz9_0 := blk_frozen BK355.out 0; have hfz9_1 := blk_frozen BK355.out 1; have hfz9_2 := blk_frozen BK355.out 2; have hfz9_3 := blk_frozen BK355.out 3; have hfz9_4 := blk_frozen BK355.out 4; have hfz9_5 := blk_frozen BK355.out 5; have hfz9_6 := blk_frozen BK355.out 6)); try go_wp2_with (first | (go_at_call 17; (with_reducible refine (stepstoneref04_Right.calls a0_0 a0_1 a0_2 a0_3 a0_4 a0_5 a0_6 true _ A5.out).mono ?_); rintro e w8 ⟨rfl, hb⟩; have n0_ := Aside0.mk (blk_below (g := gb355) (o := .cells #[.int .i64 a0_0, .int .i64 a0_1, .int .i64 a0_2, .int .i64 a0_3, .int .i64 a0_4, .int .i64 a0_5, .int .i64 a0_6] 23 (0, 0)) (by (with_reducible repeat (first | refine blk_drewN ?_ _ | refine blk_drew ?_ | refine blk_alloc ?_ _)); exact BK355.out) hb); have n1_ := Aside0.mk (below_step (by repeat (first | (with_reducible first | exact HB.out | apply below_alloc | apply pw_below_drewN | apply below_drew1 | refine below_set ?_ GE355.out) | exact HB.out)) hb); clear BK355; clear HB; have BK355 := n0_; have HB := n1_; clear n0_ n1_; (try clear hb); (try clear hb2); (try clear hk); (try clear hi); have hcz9_0 : w8.cell? ⟨gb355, 0, none⟩ = some (.int .i64 a0_0) := (blk_cell BK355.out 0).trans rfl; have hcz9_1 : w8.cell? ⟨gb355, 1, none⟩ = some (.int .i64 a0_1) := (blk_cell BK355.out 1).trans rfl; have hcz9_2 : w8.cell? ⟨gb355, 2, none⟩ = some (.int .i64 a0_2) := (blk_cell BK355.out 2).trans rfl; have hcz9_3 : w8.cell? ⟨gb355, 3, none⟩ = some (.int .i64 a0_3) := (blk_cell BK355.out 3).trans rfl; have hcz9_4 : w8.cell? ⟨gb355, 4, none⟩ = some (.int .i64 a0_4) := (blk_cell BK355.out 4).trans rfl; have hcz9_5 : w8.cell? ⟨gb355, 5, none⟩ = some (.int .i64 a0_5) := (blk_cell BK355.out 5).trans rfl; have hcz9_6 : w8.cell? ⟨gb355, 6, none⟩ = some (.int .i64 a0_6) := (blk_cell BK355.out 6).trans rfl; have hfz9_0 := blk_frozen BK355.out 0; have hfz9_1 := blk_frozen BK355.out 1; have hfz9_2 := blk_frozen BK355.out 2; have hfz9_3 := blk_frozen BK355.out 3; have hfz9_4 := blk_frozen BK355.out 4; have hfz9_5 := blk_frozen BK355.out 5; have hfz9_6 := blk_frozen BK355.out 6)))
   go_meet
   case rel => exact ⟨_, (decide ((l1.length : Int) > a0_2)), (by first | rfl | (simp; done) | (simp [*]; done)), H', ⟨by first | omega | exact Nat.le_refl _⟩, ⟨by (with_reducible repeat (first | refine blk_drewN ?_ _ | refine blk_drew ?_ | refine blk_alloc ?_ _)); exact BK355.out⟩, ⟨by repeat (first | (with_reducible first | exact HB.out | apply below_alloc | apply pw_below_drewN | apply below_drew1 | refine below_set ?_ GE355.out) | exact HB.out)⟩⟩
  ·replace c6 := Bool.eq_false_iff.mpr c6
   subst c6
   have H1 : (stepstoneref11_Right.j0 k l1 true a0_0 a0_1 a0_2 a0_3 a0_4 a0_5 a0_6) = some r := by rw [if_neg (show ¬ (false = true) by decide)] at H; exact H
   clear H
   have H := H1
   clear H1
   have H' := Aside0.mk H
   clear H
   have hcz10_0 : w4.cell? ⟨gb355, 0, none⟩ = some (.int .i64 a0_0) := (blk_cell BK355.out 0).trans rfl
   have hcz10_1 : w4.cell? ⟨gb355, 1, none⟩ = some (.int .i64 a0_1) := (blk_cell BK355.out 1).trans rfl
   have hcz10_2 : w4.cell? ⟨gb355, 2, none⟩ = some (.int .i64 a0_2) := (blk_cell BK355.out 2).trans rfl
   have hcz10_3 : w4.cell? ⟨gb355, 3, none⟩ = some (.int .i64 a0_3) := (blk_cell BK355.out 3).trans rfl
   have hcz10_4 : w4.cell? ⟨gb355, 4, none⟩ = some (.int .i64 a0_4) := (blk_cell BK355.out 4).trans rfl
   have hcz10_5 : w4.cell? ⟨gb355, 5, none⟩ = some (.int .i64 a0_5) := (blk_cell BK355.out 5).trans rfl
   have hcz10_6 : w4.cell? ⟨gb355, 6, none⟩ = some (.int .i64 a0_6) := (blk_cell BK355.out 6).trans rfl
   have hfz10_0 := blk_frozen BK355.out 0
   have hfz10_1 := blk_frozen BK355.out 1
   have hfz10_2 := blk_frozen BK355.out 2
   have hfz10_3 := blk_frozen BK355.out 3
   have hfz10_4 := blk_frozen BK355.out 4
   have hfz10_5 := blk_frozen BK355.out 5
   have hfz10_6 := blk_frozen BK355.out 6
   go_wp2_with (first | (go_at_call 17; (with_reducible refine (stepstoneref04_Right.calls a0_0 a0_1 a0_2 a0_3 a0_4 a0_5 a0_6 false _ A5.out).mono ?_); rintro e w11 ⟨rfl, hb⟩; have n0_ := Aside0.mk (blk_below (g := gb355) (o := .cells #[.int .i64 a0_0, .int .i64 a0_1, .int .i64 a0_2, .int .i64 a0_3, .int .i64 a0_4, .int .i64 a0_5, .int .i64 a0_6] 23 (0, 0)) (by (with_reducible repeat (first | refine blk_drewN ?_ _ | refine blk_drew ?_ | refine blk_alloc ?_ _)); exact BK355.out) hb); have n1_ := Aside0.mk (below_step (by repeat (first | (with_reducible first | exact HB.out | apply below_alloc | apply pw_below_drewN | apply below_drew1 | refine below_set ?_ GE355.out) | exact HB.out)) hb); clear BK355; clear HB; have BK355 := n0_; have HB := n1_; clear n0_ n1_; (try clear hb); (try clear hb2); (try clear hk); (try clear hi)))
   repeat (go_quiet (first | (go_at_call 17; (with_reducible refine (stepstoneref04_Right.calls a0_0 a0_1 a0_2 a0_3 a0_4 a0_5 a0_6 false _ A5.out).mono ?_); rintro e w11 ⟨rfl, hb⟩; have n0_ := Aside0.mk (blk_below (g := gb355) (o := .cells #[.int .i64 a0_0, .int .i64 a0_1, .int .i64 a0_2, .int .i64 a0_3, .int .i64 a0_4, .int .i64 a0_5, .int .i64 a0_6] 23 (0, 0)) (by (with_reducible repeat (first | refine blk_drewN ?_ _ | refine blk_drew ?_ | refine blk_alloc ?_ _)); exact BK355.out) hb); have n1_ := Aside0.mk (below_step (by repeat (first | (with_reducible first | exact HB.out | apply below_alloc | apply pw_below_drewN | apply below_drew1 | refine below_set ?_ GE355.out) | exact HB.out)) hb); clear BK355; clear HB; have BK355 := n0_; have HB := n1_; clear n0_ n1_; (try clear hb); (try clear hb2); (try clear hk); (try clear hi))); try go_wp2_with (first | (go_at_call 17; (with_reducible refine (stepstoneref04_Right.calls a0_0 a0_1 a0_2 a0_3 a0_4 a0_5 a0_6 false _ A5.out).mono ?_); rintro e w11 ⟨rfl, hb⟩; have n0_ := Aside0.mk (blk_below (g := gb355) (o := .cells #[.int .i64 a0_0, .int .i64 a0_1, .int .i64 a0_2, .int .i64 a0_3, .int .i64 a0_4, .int .i64 a0_5, .int .i64 a0_6] 23 (0, 0)) (by (with_reducible repeat (first | refine blk_drewN ?_ _ | refine blk_drew ?_ | refine blk_alloc ?_ _)); exact BK355.out) hb); have n1_ := Aside0.mk (below_step (by repeat (first | (with_reducible first | exact HB.out | apply below_alloc | apply pw_below_drewN | apply below_drew1 | refine below_set ?_ GE355.out) | exact HB.out)) hb); clear BK355; clear HB; have BK355 := n0_; have HB := n1_; clear n0_ n1_; (try clear hb); (try clear hb2); (try clear hk); (try clear hi))))
   go_meet
   case rel => exact ⟨_, (true), (by first | rfl | (simp; done) | (simp [*]; done)), H', ⟨by first | omega | exact Nat.le_refl _⟩, ⟨by (with_reducible repeat (first | refine blk_drewN ?_ _ | refine blk_drew ?_ | refine blk_alloc ?_ _)); exact BK355.out⟩, ⟨by repeat (first | (with_reducible first | exact HB.out | apply below_alloc | apply pw_below_drewN | apply below_drew1 | refine below_set ?_ GE355.out) | exact HB.out)⟩⟩
 case rest =>
  clear HC3
  try clear c1
  try clear p2
  try clear c3
  try clear c6
  try clear hcz10_0
  try clear hcz10_1
  try clear hcz10_2
  try clear hcz10_3
  try clear hcz10_4
  try clear hcz10_5
  try clear hcz10_6
  try clear hcz7_0
  try clear hcz7_1
  try clear hcz7_2
  try clear hcz7_3
  try clear hcz7_4
  try clear hcz7_5
  try clear hcz7_6
  try clear hcz9_0
  try clear hcz9_1
  try clear hcz9_2
  try clear hcz9_3
  try clear hcz9_4
  try clear hcz9_5
  try clear hcz9_6
  try clear hfz10_0
  try clear hfz10_1
  try clear hfz10_2
  try clear hfz10_3
  try clear hfz10_4
  try clear hfz10_5
  try clear hfz10_6
  try clear hfz7_0
  try clear hfz7_1
  try clear hfz7_2
  try clear hfz7_3
  try clear hfz7_4
  try clear hfz7_5
  try clear hfz7_6
  try clear hfz9_0
  try clear hfz9_1
  try clear hfz9_2
  try clear hfz9_3
  try clear hfz9_4
  try clear hfz9_5
  try clear hfz9_6
  obtain ⟨kq, x15_2, rfl, HA, HJ2, BK355, HB⟩ := hcut
  cases kq with
  | zero => exact absurd HA.out (by simp [stepstoneref11_Right.j0])
  | succ kj2 =>
   have H := HA.out
   clear HA
   simp only [stepstoneref11_Right.j0] at H
   by_cases c12 : x15_2 = true
   ·subst c12
    have H1 : (some false) = some r := by rw [if_pos rfl] at H; exact H
    clear H
    have H := H1
    clear H1
    obtain rfl := Option.some.inj H
    go_wp2
    repeat (go_quiet (fail); try go_wp2)
    go_ret
    exact ⟨by first | rfl | (simp [errW_none, errW_some] <;> rfl) | (simp [*, errW_none, errW_some] <;> rfl), by repeat (first | (with_reducible first | exact HB.out | apply below_alloc | apply pw_below_drewN | apply below_drew1 | refine below_set ?_ GE355.out) | exact HB.out)⟩
   ·replace c12 := Bool.eq_false_iff.mpr c12
    subst c12
    have H1 : (stepstoneref11_Right.l0 kj2 l1 0 a0_0 a0_1 a0_2 a0_3 a0_4 a0_5 a0_6) = some r := by rw [if_neg (show ¬ (false = true) by decide)] at H; exact H
    clear H
    have H := H1
    clear H1
    have H' := Aside0.mk H
    clear H
    go_wp2
    repeat (go_quiet (fail); try go_wp2)
    go_loopg [5] kj2 (fun kq v5 w' => ∃ (x5_2 : Int), v5 = .int .i64 x5_2 ∧ Aside0 (stepstoneref11_Right.l0 kq l1 x5_2 a0_0 a0_1 a0_2 a0_3 a0_4 a0_5 a0_6 = some r) ∧ Aside0 (kq ≤ kj2) ∧ Aside0 (w'.heap[gb355]? = some (.cells #[.int .i64 a0_0, .int .i64 a0_1, .int .i64 a0_2, .int .i64 a0_3, .int .i64 a0_4, .int .i64 a0_5, .int .i64 a0_6] 23 (0, 0))) ∧ Aside0 (Below w.heap.size w w'))
    case atStart => exact ⟨(0), (by first | rfl | (simp; done) | (simp [*]; done)), H', ⟨Nat.le_refl _⟩, ⟨by (with_reducible repeat (first | refine blk_drewN ?_ _ | refine blk_drew ?_ | refine blk_alloc ?_ _)); exact BK355.out⟩, ⟨by repeat (first | (with_reducible first | exact HB.out | apply below_alloc | apply pw_below_drewN | apply below_drew1 | refine below_set ?_ GE355.out) | exact HB.out)⟩⟩
    case round =>
     clear H'
     try clear c1
     try clear p2
     try clear c3
     try clear c6
     try clear c12
     try clear hcz10_0
     try clear hcz10_1
     try clear hcz10_2
     try clear hcz10_3
     try clear hcz10_4
     try clear hcz10_5
     try clear hcz10_6
     try clear hcz7_0
     try clear hcz7_1
     try clear hcz7_2
     try clear hcz7_3
     try clear hcz7_4
     try clear hcz7_5
     try clear hcz7_6
     try clear hcz9_0
     try clear hcz9_1
     try clear hcz9_2
     try clear hcz9_3
     try clear hcz9_4
     try clear hcz9_5
     try clear hcz9_6
     try clear hfz10_0
     try clear hfz10_1
     try clear hfz10_2
     try clear hfz10_3
     try clear hfz10_4
     try clear hfz10_5
     try clear hfz10_6
     try clear hfz7_0
     try clear hfz7_1
     try clear hfz7_2
     try clear hfz7_3
     try clear hfz7_4
     try clear hfz7_5
     try clear hfz7_6
     try clear hfz9_0
     try clear hfz9_1
     try clear hfz9_2
     try clear hfz9_3
     try clear hfz9_4
     try clear hfz9_5
     try clear hfz9_6
     try clear p2
     obtain ⟨x5_2, rfl, HA, HK2, BK355, HB⟩ := hrel
     cases gk with
     | zero => exact absurd HA.out (by simp [stepstoneref11_Right.l0])
     | succ k2 =>
      have H := HA.out
      clear HA
      simp only [stepstoneref11_Right.l0] at H
      by_cases c13 : x5_2 < (l1.length : Int)
      ·rw [if_pos c13] at H
       have c13b0 : decide (x5_2 < (l1.length : Int)) = true := decide_eq_true c13
       clear c13
       have HC14 := Aside0.mk H
       clear H
       go_upto_region 6 with (fail)
       repeat (go_quiet (fail); go_upto_region 6 with (fail))
       go_cut [82] (fun v82 wc => ∃ (kq : Nat) (x82_13 : Bool), v82 = .bool x82_13 ∧ Aside0 (stepstoneref11_Right.j2 kq l1 x5_2 x82_13 a0_0 a0_1 a0_2 a0_3 a0_4 a0_5 a0_6 = some r) ∧ Aside0 (kq ≤ k2) ∧ Aside0 (wc.heap[gb355]? = some (.cells #[.int .i64 a0_0, .int .i64 a0_1, .int .i64 a0_2, .int .i64 a0_3, .int .i64 a0_4, .int .i64 a0_5, .int .i64 a0_6] 23 (0, 0))) ∧ Aside0 (Below w.heap.size w wc))
       case first =>
        have H := HC14.out
        clear HC14
        by_cases c15 : 0 ≤ x5_2
        ·rw [if_pos c15] at H
         have c15b0 : decide (0 ≤ x5_2) = true := decide_eq_true c15
         clear c15
         (first | rw [c15b0] | (simp only [i64_w, i32_w]; rw [c15b0]) | skip)
         by_cases c16 : ((rd_T69 l1 x5_2).f2) < 1
         ·rw [if_pos c16] at H
          have c16b0 : decide (((rd_T69 l1 x5_2).f2) < 1) = true := decide_eq_true c16
          clear c16
          have H' := Aside0.mk H
          clear H
          have p357 : 0 ≤ (x5_2 : Int) := of_decide_eq_true (by first | (with_reducible assumption) | assumption)
          have q357 : x5_2 < (l1.length : Int) := of_decide_eq_true (by first | (with_reducible assumption) | assumption)
          obtain ⟨ad357, e357, hx357_0, hx357_1, hx357_2, hx357_3, hx357_4⟩ := at_T69 HR1.out x5_2 p357 q357
          cases e357
          replace hx357_0 := (HB.out.cell (World.block_lt_of_cell? w _ hx357_0)).trans hx357_0
          replace hx357_1 := (HB.out.cell (World.block_lt_of_cell? w _ hx357_1)).trans hx357_1
          replace hx357_2 := (HB.out.cell (World.block_lt_of_cell? w _ hx357_2)).trans hx357_2
          replace hx357_3 := (HB.out.cell (World.block_lt_of_cell? w _ hx357_3)).trans hx357_3
          replace hx357_4 := (HB.out.cell (World.block_lt_of_cell? w _ hx357_4)).trans hx357_4
          replace p357 := eq_true p357
          replace q357 := eq_true q357
          go_wp2
          repeat (go_quiet (fail); try go_wp2)
          go_meet
          case rel => exact ⟨_, (true), (by first | rfl | (simp; done) | (simp [*]; done)), H', ⟨by have := HJ2.out; have := HK2.out; first | omega | exact Nat.le_refl _⟩, ⟨by (with_reducible repeat (first | refine blk_drewN ?_ _ | refine blk_drew ?_ | refine blk_alloc ?_ _)); exact BK355.out⟩, ⟨by repeat (first | (with_reducible first | exact HB.out | apply below_alloc | apply pw_below_drewN | apply below_drew1 | refine below_set ?_ GE355.out) | exact HB.out)⟩⟩
         ·rw [if_neg c16] at H
          have c16b0 : decide (((rd_T69 l1 x5_2).f2) < 1) = false := decide_eq_false c16
          clear c16
          by_cases c17 : ((rd_T69 l1 x5_2).f2) > a0_3
          ·rw [if_pos c17] at H
           have c17b0 : decide (a0_3 < ((rd_T69 l1 x5_2).f2)) = true := decide_eq_true c17
           clear c17
           have H' := Aside0.mk H
           clear H
           have p357 : 0 ≤ (x5_2 : Int) := of_decide_eq_true (by first | (with_reducible assumption) | assumption)
           have q357 : x5_2 < (l1.length : Int) := of_decide_eq_true (by first | (with_reducible assumption) | assumption)
           obtain ⟨ad357, e357, hx357_0, hx357_1, hx357_2, hx357_3, hx357_4⟩ := at_T69 HR1.out x5_2 p357 q357
           cases e357
           replace hx357_0 := (HB.out.cell (World.block_lt_of_cell? w _ hx357_0)).trans hx357_0
           replace hx357_1 := (HB.out.cell (World.block_lt_of_cell? w _ hx357_1)).trans hx357_1
           replace hx357_2 := (HB.out.cell (World.block_lt_of_cell? w _ hx357_2)).trans hx357_2
           replace hx357_3 := (HB.out.cell (World.block_lt_of_cell? w _ hx357_3)).trans hx357_3
           replace hx357_4 := (HB.out.cell (World.block_lt_of_cell? w _ hx357_4)).trans hx357_4
           replace p357 := eq_true p357
           replace q357 := eq_true q357
           have p358 : 0 ≤ (x5_2 : Int) := of_decide_eq_true (by first | (with_reducible assumption) | assumption)
           have q358 : x5_2 < (l1.length : Int) := of_decide_eq_true (by first | (with_reducible assumption) | assumption)
           obtain ⟨ad358, e358, hx358_0, hx358_1, hx358_2, hx358_3, hx358_4⟩ := at_T69 HR1.out x5_2 p358 q358
           obtain rfl : ad357 = ad358 := (by injection e358)
           replace hx358_0 := (HB.out.cell (World.block_lt_of_cell? w _ hx358_0)).trans hx358_0
           replace hx358_1 := (HB.out.cell (World.block_lt_of_cell? w _ hx358_1)).trans hx358_1
           replace hx358_2 := (HB.out.cell (World.block_lt_of_cell? w _ hx358_2)).trans hx358_2
           replace hx358_3 := (HB.out.cell (World.block_lt_of_cell? w _ hx358_3)).trans hx358_3
           replace hx358_4 := (HB.out.cell (World.block_lt_of_cell? w _ hx358_4)).trans hx358_4
           replace p358 := eq_true p358
           replace q358 := eq_true q358
           have hcz18_0 : wr.cell? ⟨gb355, 0, none⟩ = some (.int .i64 a0_0) := (blk_cell BK355.out 0).trans rfl
           have hcz18_1 : wr.cell? ⟨gb355, 1, none⟩ = some (.int .i64 a0_1) := (blk_cell BK355.out 1).trans rfl
           have hcz18_2 : wr.cell? ⟨gb355, 2, none⟩ = some (.int .i64 a0_2) := (blk_cell BK355.out 2).trans rfl
           have hcz18_3 : wr.cell? ⟨gb355, 3, none⟩ = some (.int .i64 a0_3) := (blk_cell BK355.out 3).trans rfl
           have hcz18_4 : wr.cell? ⟨gb355, 4, none⟩ = some (.int .i64 a0_4) := (blk_cell BK355.out 4).trans rfl
           have hcz18_5 : wr.cell? ⟨gb355, 5, none⟩ = some (.int .i64 a0_5) := (blk_cell BK355.out 5).trans rfl
           have hcz18_6 : wr.cell? ⟨gb355, 6, none⟩ = some (.int .i64 a0_6) := (blk_cell BK355.out 6).trans rfl
           have hfz18_0 := blk_frozen BK355.out 0
           have hfz18_1 := blk_frozen BK355.out 1
           have hfz18_2 := blk_frozen BK355.out 2
           have hfz18_3 := blk_frozen BK355.out 3
           have hfz18_4 := blk_frozen BK355.out 4
           have hfz18_5 := blk_frozen BK355.out 5
           have hfz18_6 := blk_frozen BK355.out 6
           go_wp2
           repeat (go_quiet (fail); try go_wp2)
           go_meet
           case rel => exact ⟨_, (true), (by first | rfl | (simp; done) | (simp [*]; done)), H', ⟨by have := HJ2.out; have := HK2.out; first | omega | exact Nat.le_refl _⟩, ⟨by (with_reducible repeat (first | refine blk_drewN ?_ _ | refine blk_drew ?_ | refine blk_alloc ?_ _)); exact BK355.out⟩, ⟨by repeat (first | (with_reducible first | exact HB.out | apply below_alloc | apply pw_below_drewN | apply below_drew1 | refine below_set ?_ GE355.out) | exact HB.out)⟩⟩
          ·rw [if_neg c17] at H
           have c17b0 : decide (a0_3 < ((rd_T69 l1 x5_2).f2)) = false := decide_eq_false c17
           clear c17
           by_cases c19 : ((rd_T69 l1 x5_2).f3) < 0
           ·rw [if_pos c19] at H
            have c19b0 : decide (((rd_T69 l1 x5_2).f3) < 0) = true := decide_eq_true c19
            clear c19
            have H' := Aside0.mk H
            clear H
            have p357 : 0 ≤ (x5_2 : Int) := of_decide_eq_true (by first | (with_reducible assumption) | assumption)
            have q357 : x5_2 < (l1.length : Int) := of_decide_eq_true (by first | (with_reducible assumption) | assumption)
            obtain ⟨ad357, e357, hx357_0, hx357_1, hx357_2, hx357_3, hx357_4⟩ := at_T69 HR1.out x5_2 p357 q357
            cases e357
            replace hx357_0 := (HB.out.cell (World.block_lt_of_cell? w _ hx357_0)).trans hx357_0
            replace hx357_1 := (HB.out.cell (World.block_lt_of_cell? w _ hx357_1)).trans hx357_1
            replace hx357_2 := (HB.out.cell (World.block_lt_of_cell? w _ hx357_2)).trans hx357_2
            replace hx357_3 := (HB.out.cell (World.block_lt_of_cell? w _ hx357_3)).trans hx357_3
            replace hx357_4 := (HB.out.cell (World.block_lt_of_cell? w _ hx357_4)).trans hx357_4
            replace p357 := eq_true p357
            replace q357 := eq_true q357
            have p358 : 0 ≤ (x5_2 : Int) := of_decide_eq_true (by first | (with_reducible assumption) | assumption)
            have q358 : x5_2 < (l1.length : Int) := of_decide_eq_true (by first | (with_reducible assumption) | assumption)
            obtain ⟨ad358, e358, hx358_0, hx358_1, hx358_2, hx358_3, hx358_4⟩ := at_T69 HR1.out x5_2 p358 q358
            obtain rfl : ad357 = ad358 := (by injection e358)
            replace hx358_0 := (HB.out.cell (World.block_lt_of_cell? w _ hx358_0)).trans hx358_0
            replace hx358_1 := (HB.out.cell (World.block_lt_of_cell? w _ hx358_1)).trans hx358_1
            replace hx358_2 := (HB.out.cell (World.block_lt_of_cell? w _ hx358_2)).trans hx358_2
            replace hx358_3 := (HB.out.cell (World.block_lt_of_cell? w _ hx358_3)).trans hx358_3
            replace hx358_4 := (HB.out.cell (World.block_lt_of_cell? w _ hx358_4)).trans hx358_4
            replace p358 := eq_true p358
            replace q358 := eq_true q358
            have hcz20_0 : wr.cell? ⟨gb355, 0, none⟩ = some (.int .i64 a0_0) := (blk_cell BK355.out 0).trans rfl
            have hcz20_1 : wr.cell? ⟨gb355, 1, none⟩ = some (.int .i64 a0_1) := (blk_cell BK355.out 1).trans rfl
            have hcz20_2 : wr.cell? ⟨gb355, 2, none⟩ = some (.int .i64 a0_2) := (blk_cell BK355.out 2).trans rfl
            have hcz20_3 : wr.cell? ⟨gb355, 3, none⟩ = some (.int .i64 a0_3) := (blk_cell BK355.out 3).trans rfl
            have hcz20_4 : wr.cell? ⟨gb355, 4, none⟩ = some (.int .i64 a0_4) := (blk_cell BK355.out 4).trans rfl
            have hcz20_5 : wr.cell? ⟨gb355, 5, none⟩ = some (.int .i64 a0_5) := (blk_cell BK355.out 5).trans rfl
            have hcz20_6 : wr.cell? ⟨gb355, 6, none⟩ = some (.int .i64 a0_6) := (blk_cell BK355.out 6).trans rfl
            have hfz20_0 := blk_frozen BK355.out 0
            have hfz20_1 := blk_frozen BK355.out 1
            have hfz20_2 := blk_frozen BK355.out 2
            have hfz20_3 := blk_frozen BK355.out 3
            have hfz20_4 := blk_frozen BK355.out 4
            have hfz20_5 := blk_frozen BK355.out 5
            have hfz20_6 := blk_frozen BK355.out 6
            have p359 : 0 ≤ (x5_2 : Int) := of_decide_eq_true (by first | (with_reducible assumption) | assumption)
            have q359 : x5_2 < (l1.length : Int) := of_decide_eq_true (by first | (with_reducible assumption) | assumption)
            obtain ⟨ad359, e359, hx359_0, hx359_1, hx359_2, hx359_3, hx359_4⟩ := at_T69 HR1.out x5_2 p359 q359
            obtain rfl : ad357 = ad359 := (by injection e359)
            replace hx359_0 := (HB.out.cell (World.block_lt_of_cell? w _ hx359_0)).trans hx359_0
            replace hx359_1 := (HB.out.cell (World.block_lt_of_cell? w _ hx359_1)).trans hx359_1
            replace hx359_2 := (HB.out.cell (World.block_lt_of_cell? w _ hx359_2)).trans hx359_2
            replace hx359_3 := (HB.out.cell (World.block_lt_of_cell? w _ hx359_3)).trans hx359_3
            replace hx359_4 := (HB.out.cell (World.block_lt_of_cell? w _ hx359_4)).trans hx359_4
            replace p359 := eq_true p359
            replace q359 := eq_true q359
            go_wp2
            repeat (go_quiet (fail); try go_wp2)
            go_meet
            case rel => exact ⟨_, (true), (by first | rfl | (simp; done) | (simp [*]; done)), H', ⟨by have := HJ2.out; have := HK2.out; first | omega | exact Nat.le_refl _⟩, ⟨by (with_reducible repeat (first | refine blk_drewN ?_ _ | refine blk_drew ?_ | refine blk_alloc ?_ _)); exact BK355.out⟩, ⟨by repeat (first | (with_reducible first | exact HB.out | apply below_alloc | apply pw_below_drewN | apply below_drew1 | refine below_set ?_ GE355.out) | exact HB.out)⟩⟩
           ·rw [if_neg c19] at H
            have c19b0 : decide (((rd_T69 l1 x5_2).f3) < 0) = false := decide_eq_false c19
            clear c19
            by_cases c21 : ((rd_T69 l1 x5_2).f3) > ((rd_T69 l1 x5_2).f2)
            ·rw [if_pos c21] at H
             have c21b0 : decide (((rd_T69 l1 x5_2).f2) < ((rd_T69 l1 x5_2).f3)) = true := decide_eq_true c21
             clear c21
             have H' := Aside0.mk H
             clear H
             have p357 : 0 ≤ (x5_2 : Int) := of_decide_eq_true (by first | (with_reducible assumption) | assumption)
             have q357 : x5_2 < (l1.length : Int) := of_decide_eq_true (by first | (with_reducible assumption) | assumption)
             obtain ⟨ad357, e357, hx357_0, hx357_1, hx357_2, hx357_3, hx357_4⟩ := at_T69 HR1.out x5_2 p357 q357
             cases e357
             replace hx357_0 := (HB.out.cell (World.block_lt_of_cell? w _ hx357_0)).trans hx357_0
             replace hx357_1 := (HB.out.cell (World.block_lt_of_cell? w _ hx357_1)).trans hx357_1
             replace hx357_2 := (HB.out.cell (World.block_lt_of_cell? w _ hx357_2)).trans hx357_2
             replace hx357_3 := (HB.out.cell (World.block_lt_of_cell? w _ hx357_3)).trans hx357_3
             replace hx357_4 := (HB.out.cell (World.block_lt_of_cell? w _ hx357_4)).trans hx357_4
             replace p357 := eq_true p357
             replace q357 := eq_true q357
             have p358 : 0 ≤ (x5_2 : Int) := of_decide_eq_true (by first | (with_reducible assumption) | assumption)
             have q358 : x5_2 < (l1.length : Int) := of_decide_eq_true (by first | (with_reducible assumption) | assumption)
             obtain ⟨ad358, e358, hx358_0, hx358_1, hx358_2, hx358_3, hx358_4⟩ := at_T69 HR1.out x5_2 p358 q358
             obtain rfl : ad357 = ad358 := (by injection e358)
             replace hx358_0 := (HB.out.cell (World.block_lt_of_cell? w _ hx358_0)).trans hx358_0
             replace hx358_1 := (HB.out.cell (World.block_lt_of_cell? w _ hx358_1)).trans hx358_1
             replace hx358_2 := (HB.out.cell (World.block_lt_of_cell? w _ hx358_2)).trans hx358_2
             replace hx358_3 := (HB.out.cell (World.block_lt_of_cell? w _ hx358_3)).trans hx358_3
             replace hx358_4 := (HB.out.cell (World.block_lt_of_cell? w _ hx358_4)).trans hx358_4
             replace p358 := eq_true p358
             replace q358 := eq_true q358
             have hcz22_0 : wr.cell? ⟨gb355, 0, none⟩ = some (.int .i64 a0_0) := (blk_cell BK355.out 0).trans rfl
             have hcz22_1 : wr.cell? ⟨gb355, 1, none⟩ = some (.int .i64 a0_1) := (blk_cell BK355.out 1).trans rfl
             have hcz22_2 : wr.cell? ⟨gb355, 2, none⟩ = some (.int .i64 a0_2) := (blk_cell BK355.out 2).trans rfl
             have hcz22_3 : wr.cell? ⟨gb355, 3, none⟩ = some (.int .i64 a0_3) := (blk_cell BK355.out 3).trans rfl
             have hcz22_4 : wr.cell? ⟨gb355, 4, none⟩ = some (.int .i64 a0_4) := (blk_cell BK355.out 4).trans rfl
             have hcz22_5 : wr.cell? ⟨gb355, 5, none⟩ = some (.int .i64 a0_5) := (blk_cell BK355.out 5).trans rfl
             have hcz22_6 : wr.cell? ⟨gb355, 6, none⟩ = some (.int .i64 a0_6) := (blk_cell BK355.out 6).trans rfl
             have hfz22_0 := blk_frozen BK355.out 0
             have hfz22_1 := blk_frozen BK355.out 1
             have hfz22_2 := blk_frozen BK355.out 2
             have hfz22_3 := blk_frozen BK355.out 3
             have hfz22_4 := blk_frozen BK355.out 4
             have hfz22_5 := blk_frozen BK355.out 5
             have hfz22_6 := blk_frozen BK355.out 6
             have p359 : 0 ≤ (x5_2 : Int) := of_decide_eq_true (by first | (with_reducible assumption) | assumption)
             have q359 : x5_2 < (l1.length : Int) := of_decide_eq_true (by first | (with_reducible assumption) | assumption)
             obtain ⟨ad359, e359, hx359_0, hx359_1, hx359_2, hx359_3, hx359_4⟩ := at_T69 HR1.out x5_2 p359 q359
             obtain rfl : ad357 = ad359 := (by injection e359)
             replace hx359_0 := (HB.out.cell (World.block_lt_of_cell? w _ hx359_0)).trans hx359_0
             replace hx359_1 := (HB.out.cell (World.block_lt_of_cell? w _ hx359_1)).trans hx359_1
             replace hx359_2 := (HB.out.cell (World.block_lt_of_cell? w _ hx359_2)).trans hx359_2
             replace hx359_3 := (HB.out.cell (World.block_lt_of_cell? w _ hx359_3)).trans hx359_3
             replace hx359_4 := (HB.out.cell (World.block_lt_of_cell? w _ hx359_4)).trans hx359_4
             replace p359 := eq_true p359
             replace q359 := eq_true q359
             have p360 : 0 ≤ (x5_2 : Int) := of_decide_eq_true (by first | (with_reducible assumption) | assumption)
             have q360 : x5_2 < (l1.length : Int) := of_decide_eq_true (by first | (with_reducible assumption) | assumption)
             obtain ⟨ad360, e360, hx360_0, hx360_1, hx360_2, hx360_3, hx360_4⟩ := at_T69 HR1.out x5_2 p360 q360
             obtain rfl : ad357 = ad360 := (by injection e360)
             replace hx360_0 := (HB.out.cell (World.block_lt_of_cell? w _ hx360_0)).trans hx360_0
             replace hx360_1 := (HB.out.cell (World.block_lt_of_cell? w _ hx360_1)).trans hx360_1
             replace hx360_2 := (HB.out.cell (World.block_lt_of_cell? w _ hx360_2)).trans hx360_2
             replace hx360_3 := (HB.out.cell (World.block_lt_of_cell? w _ hx360_3)).trans hx360_3
             replace hx360_4 := (HB.out.cell (World.block_lt_of_cell? w _ hx360_4)).trans hx360_4
             replace p360 := eq_true p360
             replace q360 := eq_true q360
             have p361 : 0 ≤ (x5_2 : Int) := of_decide_eq_true (by first | (with_reducible assumption) | assumption)
             have q361 : x5_2 < (l1.length : Int) := of_decide_eq_true (by first | (with_reducible assumption) | assumption)
             obtain ⟨ad361, e361, hx361_0, hx361_1, hx361_2, hx361_3, hx361_4⟩ := at_T69 HR1.out x5_2 p361 q361
             obtain rfl : ad357 = ad361 := (by injection e361)
             replace hx361_0 := (HB.out.cell (World.block_lt_of_cell? w _ hx361_0)).trans hx361_0
             replace hx361_1 := (HB.out.cell (World.block_lt_of_cell? w _ hx361_1)).trans hx361_1
             replace hx361_2 := (HB.out.cell (World.block_lt_of_cell? w _ hx361_2)).trans hx361_2
             replace hx361_3 := (HB.out.cell (World.block_lt_of_cell? w _ hx361_3)).trans hx361_3
             replace hx361_4 := (HB.out.cell (World.block_lt_of_cell? w _ hx361_4)).trans hx361_4
             replace p361 := eq_true p361
             replace q361 := eq_true q361
             go_wp2
             repeat (go_quiet (fail); try go_wp2)
             go_meet
             case rel => exact ⟨_, (true), (by first | rfl | (simp; done) | (simp [*]; done)), H', ⟨by have := HJ2.out; have := HK2.out; first | omega | exact Nat.le_refl _⟩, ⟨by (with_reducible repeat (first | refine blk_drewN ?_ _ | refine blk_drew ?_ | refine blk_alloc ?_ _)); exact BK355.out⟩, ⟨by repeat (first | (with_reducible first | exact HB.out | apply below_alloc | apply pw_below_drewN | apply below_drew1 | refine below_set ?_ GE355.out) | exact HB.out)⟩⟩
            ·rw [if_neg c21] at H
             have c21b0 : decide (((rd_T69 l1 x5_2).f2) < ((rd_T69 l1 x5_2).f3)) = false := decide_eq_false c21
             clear c21
             by_cases c23 : ((rd_T69 l1 x5_2).f3) > 0
             ·rw [if_pos c23] at H
              have c23b0 : decide (0 < ((rd_T69 l1 x5_2).f3)) = true := decide_eq_true c23
              clear c23
              obtain ⟨bq24, hbq24⟩ : ∃ b_ : Bool, b_ = ((rd_T69 l1 x5_2).f4) := ⟨_, rfl⟩
              replace H : (if (bq24 = true) then (stepstoneref11_Right.j2 k2 l1 x5_2 (decide (((rd_T69 l1 x5_2).f1) ≥ 9223372036854775808)) a0_0 a0_1 a0_2 a0_3 a0_4 a0_5 a0_6) else (stepstoneref11_Right.j2 k2 l1 x5_2 true a0_0 a0_1 a0_2 a0_3 a0_4 a0_5 a0_6)) = some r := by rw [← hbq24] at H; exact H
              have Nbq24 := Aside0.mk hbq24
              clear hbq24
              by_cases c25 : (bq24 = true)
              ·subst c25
               have H1 : (stepstoneref11_Right.j2 k2 l1 x5_2 (decide (((rd_T69 l1 x5_2).f1) ≥ 9223372036854775808)) a0_0 a0_1 a0_2 a0_3 a0_4 a0_5 a0_6) = some r := by rw [if_pos rfl] at H; exact H
               clear H
               have H := H1
               clear H1
               have H' := Aside0.mk H
               clear H
               have p357 : 0 ≤ (x5_2 : Int) := of_decide_eq_true (by first | (with_reducible assumption) | assumption)
               have q357 : x5_2 < (l1.length : Int) := of_decide_eq_true (by first | (with_reducible assumption) | assumption)
               obtain ⟨ad357, e357, hx357_0, hx357_1, hx357_2, hx357_3, hx357_4⟩ := at_T69 HR1.out x5_2 p357 q357
               (try rw [← Nbq24.out] at hx357_4)
               cases e357
               replace hx357_0 := (HB.out.cell (World.block_lt_of_cell? w _ hx357_0)).trans hx357_0
               replace hx357_1 := (HB.out.cell (World.block_lt_of_cell? w _ hx357_1)).trans hx357_1
               replace hx357_2 := (HB.out.cell (World.block_lt_of_cell? w _ hx357_2)).trans hx357_2
               replace hx357_3 := (HB.out.cell (World.block_lt_of_cell? w _ hx357_3)).trans hx357_3
               replace hx357_4 := (HB.out.cell (World.block_lt_of_cell? w _ hx357_4)).trans hx357_4
               replace p357 := eq_true p357
               replace q357 := eq_true q357
               have p358 : 0 ≤ (x5_2 : Int) := of_decide_eq_true (by first | (with_reducible assumption) | assumption)
               have q358 : x5_2 < (l1.length : Int) := of_decide_eq_true (by first | (with_reducible assumption) | assumption)
               obtain ⟨ad358, e358, hx358_0, hx358_1, hx358_2, hx358_3, hx358_4⟩ := at_T69 HR1.out x5_2 p358 q358
               (try rw [← Nbq24.out] at hx358_4)
               obtain rfl : ad357 = ad358 := (by injection e358)
               replace hx358_0 := (HB.out.cell (World.block_lt_of_cell? w _ hx358_0)).trans hx358_0
               replace hx358_1 := (HB.out.cell (World.block_lt_of_cell? w _ hx358_1)).trans hx358_1
               replace hx358_2 := (HB.out.cell (World.block_lt_of_cell? w _ hx358_2)).trans hx358_2
               replace hx358_3 := (HB.out.cell (World.block_lt_of_cell? w _ hx358_3)).trans hx358_3
               replace hx358_4 := (HB.out.cell (World.block_lt_of_cell? w _ hx358_4)).trans hx358_4
               replace p358 := eq_true p358
               replace q358 := eq_true q358
               have hcz26_0 : wr.cell? ⟨gb355, 0, none⟩ = some (.int .i64 a0_0) := (blk_cell BK355.out 0).trans rfl
               have hcz26_1 : wr.cell? ⟨gb355, 1, none⟩ = some (.int .i64 a0_1) := (blk_cell BK355.out 1).trans rfl
               have hcz26_2 : wr.cell? ⟨gb355, 2, none⟩ = some (.int .i64 a0_2) := (blk_cell BK355.out 2).trans rfl
               have hcz26_3 : wr.cell? ⟨gb355, 3, none⟩ = some (.int .i64 a0_3) := (blk_cell BK355.out 3).trans rfl
               have hcz26_4 : wr.cell? ⟨gb355, 4, none⟩ = some (.int .i64 a0_4) := (blk_cell BK355.out 4).trans rfl
               have hcz26_5 : wr.cell? ⟨gb355, 5, none⟩ = some (.int .i64 a0_5) := (blk_cell BK355.out 5).trans rfl
               have hcz26_6 : wr.cell? ⟨gb355, 6, none⟩ = some (.int .i64 a0_6) := (blk_cell BK355.out 6).trans rfl
               have hfz26_0 := blk_frozen BK355.out 0
               have hfz26_1 := blk_frozen BK355.out 1
               have hfz26_2 := blk_frozen BK355.out 2
               have hfz26_3 := blk_frozen BK355.out 3
               have hfz26_4 := blk_frozen BK355.out 4
               have hfz26_5 := blk_frozen BK355.out 5
               have hfz26_6 := blk_frozen BK355.out 6
               have p359 : 0 ≤ (x5_2 : Int) := of_decide_eq_true (by first | (with_reducible assumption) | assumption)
               have q359 : x5_2 < (l1.length : Int) := of_decide_eq_true (by first | (with_reducible assumption) | assumption)
               obtain ⟨ad359, e359, hx359_0, hx359_1, hx359_2, hx359_3, hx359_4⟩ := at_T69 HR1.out x5_2 p359 q359
               (try rw [← Nbq24.out] at hx359_4)
               obtain rfl : ad357 = ad359 := (by injection e359)
               replace hx359_0 := (HB.out.cell (World.block_lt_of_cell? w _ hx359_0)).trans hx359_0
               replace hx359_1 := (HB.out.cell (World.block_lt_of_cell? w _ hx359_1)).trans hx359_1
               replace hx359_2 := (HB.out.cell (World.block_lt_of_cell? w _ hx359_2)).trans hx359_2
               replace hx359_3 := (HB.out.cell (World.block_lt_of_cell? w _ hx359_3)).trans hx359_3
               replace hx359_4 := (HB.out.cell (World.block_lt_of_cell? w _ hx359_4)).trans hx359_4
               replace p359 := eq_true p359
               replace q359 := eq_true q359
               have p360 : 0 ≤ (x5_2 : Int) := of_decide_eq_true (by first | (with_reducible assumption) | assumption)
               have q360 : x5_2 < (l1.length : Int) := of_decide_eq_true (by first | (with_reducible assumption) | assumption)
               obtain ⟨ad360, e360, hx360_0, hx360_1, hx360_2, hx360_3, hx360_4⟩ := at_T69 HR1.out x5_2 p360 q360
               (try rw [← Nbq24.out] at hx360_4)
               obtain rfl : ad357 = ad360 := (by injection e360)
               replace hx360_0 := (HB.out.cell (World.block_lt_of_cell? w _ hx360_0)).trans hx360_0
               replace hx360_1 := (HB.out.cell (World.block_lt_of_cell? w _ hx360_1)).trans hx360_1
               replace hx360_2 := (HB.out.cell (World.block_lt_of_cell? w _ hx360_2)).trans hx360_2
               replace hx360_3 := (HB.out.cell (World.block_lt_of_cell? w _ hx360_3)).trans hx360_3
               replace hx360_4 := (HB.out.cell (World.block_lt_of_cell? w _ hx360_4)).trans hx360_4
               replace p360 := eq_true p360
               replace q360 := eq_true q360
               have p361 : 0 ≤ (x5_2 : Int) := of_decide_eq_true (by first | (with_reducible assumption) | assumption)
               have q361 : x5_2 < (l1.length : Int) := of_decide_eq_true (by first | (with_reducible assumption) | assumption)
               obtain ⟨ad361, e361, hx361_0, hx361_1, hx361_2, hx361_3, hx361_4⟩ := at_T69 HR1.out x5_2 p361 q361
               (try rw [← Nbq24.out] at hx361_4)
               obtain rfl : ad357 = ad361 := (by injection e361)
               replace hx361_0 := (HB.out.cell (World.block_lt_of_cell? w _ hx361_0)).trans hx361_0
               replace hx361_1 := (HB.out.cell (World.block_lt_of_cell? w _ hx361_1)).trans hx361_1
               replace hx361_2 := (HB.out.cell (World.block_lt_of_cell? w _ hx361_2)).trans hx361_2
               replace hx361_3 := (HB.out.cell (World.block_lt_of_cell? w _ hx361_3)).trans hx361_3
               replace hx361_4 := (HB.out.cell (World.block_lt_of_cell? w _ hx361_4)).trans hx361_4
               replace p361 := eq_true p361
               replace q361 := eq_true q361
               have p362 : 0 ≤ (x5_2 : Int) := of_decide_eq_true (by first | (with_reducible assumption) | assumption)
               have q362 : x5_2 < (l1.length : Int) := of_decide_eq_true (by first | (with_reducible assumption) | assumption)
               obtain ⟨ad362, e362, hx362_0, hx362_1, hx362_2, hx362_3, hx362_4⟩ := at_T69 HR1.out x5_2 p362 q362
               (try rw [← Nbq24.out] at hx362_4)
               obtain rfl : ad357 = ad362 := (by injection e362)
               replace hx362_0 := (HB.out.cell (World.block_lt_of_cell? w _ hx362_0)).trans hx362_0
               replace hx362_1 := (HB.out.cell (World.block_lt_of_cell? w _ hx362_1)).trans hx362_1
               replace hx362_2 := (HB.out.cell (World.block_lt_of_cell? w _ hx362_2)).trans hx362_2
               replace hx362_3 := (HB.out.cell (World.block_lt_of_cell? w _ hx362_3)).trans hx362_3
               replace hx362_4 := (HB.out.cell (World.block_lt_of_cell? w _ hx362_4)).trans hx362_4
               replace p362 := eq_true p362
               replace q362 := eq_true q362
               have p363 : 0 ≤ (x5_2 : Int) := of_decide_eq_true (by first | (with_reducible assumption) | assumption)
               have q363 : x5_2 < (l1.length : Int) := of_decide_eq_true (by first | (with_reducible assumption) | assumption)
               obtain ⟨ad363, e363, hx363_0, hx363_1, hx363_2, hx363_3, hx363_4⟩ := at_T69 HR1.out x5_2 p363 q363
               (try rw [← Nbq24.out] at hx363_4)
               obtain rfl : ad357 = ad363 := (by injection e363)
               replace hx363_0 := (HB.out.cell (World.block_lt_of_cell? w _ hx363_0)).trans hx363_0
               replace hx363_1 := (HB.out.cell (World.block_lt_of_cell? w _ hx363_1)).trans hx363_1
               replace hx363_2 := (HB.out.cell (World.block_lt_of_cell? w _ hx363_2)).trans hx363_2
               replace hx363_3 := (HB.out.cell (World.block_lt_of_cell? w _ hx363_3)).trans hx363_3
               replace hx363_4 := (HB.out.cell (World.block_lt_of_cell? w _ hx363_4)).trans hx363_4
               replace p363 := eq_true p363
               replace q363 := eq_true q363
               have p364 : 0 ≤ (x5_2 : Int) := of_decide_eq_true (by first | (with_reducible assumption) | assumption)
               have q364 : x5_2 < (l1.length : Int) := of_decide_eq_true (by first | (with_reducible assumption) | assumption)
               obtain ⟨ad364, e364, hx364_0, hx364_1, hx364_2, hx364_3, hx364_4⟩ := at_T69 HR1.out x5_2 p364 q364
               (try rw [← Nbq24.out] at hx364_4)
               obtain rfl : ad357 = ad364 := (by injection e364)
               replace hx364_0 := (HB.out.cell (World.block_lt_of_cell? w _ hx364_0)).trans hx364_0
               replace hx364_1 := (HB.out.cell (World.block_lt_of_cell? w _ hx364_1)).trans hx364_1
               replace hx364_2 := (HB.out.cell (World.block_lt_of_cell? w _ hx364_2)).trans hx364_2
               replace hx364_3 := (HB.out.cell (World.block_lt_of_cell? w _ hx364_3)).trans hx364_3
               replace hx364_4 := (HB.out.cell (World.block_lt_of_cell? w _ hx364_4)).trans hx364_4
               replace p364 := eq_true p364
               replace q364 := eq_true q364
               go_wp2
               repeat (go_quiet (fail); try go_wp2)
               go_meet
               case rel => exact ⟨_, (decide (((rd_T69 l1 x5_2).f1) ≥ 9223372036854775808)), (by first | rfl | (simp; done) | (simp [*]; done)), H', ⟨by have := HJ2.out; have := HK2.out; first | omega | exact Nat.le_refl _⟩, ⟨by (with_reducible repeat (first | refine blk_drewN ?_ _ | refine blk_drew ?_ | refine blk_alloc ?_ _)); exact BK355.out⟩, ⟨by repeat (first | (with_reducible first | exact HB.out | apply below_alloc | apply pw_below_drewN | apply below_drew1 | refine below_set ?_ GE355.out) | exact HB.out)⟩⟩
              ·replace c25 := Bool.eq_false_iff.mpr c25
               subst c25
               have H1 : (stepstoneref11_Right.j2 k2 l1 x5_2 true a0_0 a0_1 a0_2 a0_3 a0_4 a0_5 a0_6) = some r := by rw [if_neg (show ¬ (false = true) by decide)] at H; exact H
               clear H
               have H := H1
               clear H1
               have H' := Aside0.mk H
               clear H
               have p357 : 0 ≤ (x5_2 : Int) := of_decide_eq_true (by first | (with_reducible assumption) | assumption)
               have q357 : x5_2 < (l1.length : Int) := of_decide_eq_true (by first | (with_reducible assumption) | assumption)
               obtain ⟨ad357, e357, hx357_0, hx357_1, hx357_2, hx357_3, hx357_4⟩ := at_T69 HR1.out x5_2 p357 q357
               (try rw [← Nbq24.out] at hx357_4)
               cases e357
               replace hx357_0 := (HB.out.cell (World.block_lt_of_cell? w _ hx357_0)).trans hx357_0
               replace hx357_1 := (HB.out.cell (World.block_lt_of_cell? w _ hx357_1)).trans hx357_1
               replace hx357_2 := (HB.out.cell (World.block_lt_of_cell? w _ hx357_2)).trans hx357_2
               replace hx357_3 := (HB.out.cell (World.block_lt_of_cell? w _ hx357_3)).trans hx357_3
               replace hx357_4 := (HB.out.cell (World.block_lt_of_cell? w _ hx357_4)).trans hx357_4
               replace p357 := eq_true p357
               replace q357 := eq_true q357
               have p358 : 0 ≤ (x5_2 : Int) := of_decide_eq_true (by first | (with_reducible assumption) | assumption)
               have q358 : x5_2 < (l1.length : Int) := of_decide_eq_true (by first | (with_reducible assumption) | assumption)
               obtain ⟨ad358, e358, hx358_0, hx358_1, hx358_2, hx358_3, hx358_4⟩ := at_T69 HR1.out x5_2 p358 q358
               (try rw [← Nbq24.out] at hx358_4)
               obtain rfl : ad357 = ad358 := (by injection e358)
               replace hx358_0 := (HB.out.cell (World.block_lt_of_cell? w _ hx358_0)).trans hx358_0
               replace hx358_1 := (HB.out.cell (World.block_lt_of_cell? w _ hx358_1)).trans hx358_1
               replace hx358_2 := (HB.out.cell (World.block_lt_of_cell? w _ hx358_2)).trans hx358_2
               replace hx358_3 := (HB.out.cell (World.block_lt_of_cell? w _ hx358_3)).trans hx358_3
               replace hx358_4 := (HB.out.cell (World.block_lt_of_cell? w _ hx358_4)).trans hx358_4
               replace p358 := eq_true p358
               replace q358 := eq_true q358
               have hcz27_0 : wr.cell? ⟨gb355, 0, none⟩ = some (.int .i64 a0_0) := (blk_cell BK355.out 0).trans rfl
               have hcz27_1 : wr.cell? ⟨gb355, 1, none⟩ = some (.int .i64 a0_1) := (blk_cell BK355.out 1).trans rfl
               have hcz27_2 : wr.cell? ⟨gb355, 2, none⟩ = some (.int .i64 a0_2) := (blk_cell BK355.out 2).trans rfl
               have hcz27_3 : wr.cell? ⟨gb355, 3, none⟩ = some (.int .i64 a0_3) := (blk_cell BK355.out 3).trans rfl
               have hcz27_4 : wr.cell? ⟨gb355, 4, none⟩ = some (.int .i64 a0_4) := (blk_cell BK355.out 4).trans rfl
               have hcz27_5 : wr.cell? ⟨gb355, 5, none⟩ = some (.int .i64 a0_5) := (blk_cell BK355.out 5).trans rfl
               have hcz27_6 : wr.cell? ⟨gb355, 6, none⟩ = some (.int .i64 a0_6) := (blk_cell BK355.out 6).trans rfl
               have hfz27_0 := blk_frozen BK355.out 0
               have hfz27_1 := blk_frozen BK355.out 1
               have hfz27_2 := blk_frozen BK355.out 2
               have hfz27_3 := blk_frozen BK355.out 3
               have hfz27_4 := blk_frozen BK355.out 4
               have hfz27_5 := blk_frozen BK355.out 5
               have hfz27_6 := blk_frozen BK355.out 6
               have p359 : 0 ≤ (x5_2 : Int) := of_decide_eq_true (by first | (with_reducible assumption) | assumption)
               have q359 : x5_2 < (l1.length : Int) := of_decide_eq_true (by first | (with_reducible assumption) | assumption)
               obtain ⟨ad359, e359, hx359_0, hx359_1, hx359_2, hx359_3, hx359_4⟩ := at_T69 HR1.out x5_2 p359 q359
               (try rw [← Nbq24.out] at hx359_4)
               obtain rfl : ad357 = ad359 := (by injection e359)
               replace hx359_0 := (HB.out.cell (World.block_lt_of_cell? w _ hx359_0)).trans hx359_0
               replace hx359_1 := (HB.out.cell (World.block_lt_of_cell? w _ hx359_1)).trans hx359_1
               replace hx359_2 := (HB.out.cell (World.block_lt_of_cell? w _ hx359_2)).trans hx359_2
               replace hx359_3 := (HB.out.cell (World.block_lt_of_cell? w _ hx359_3)).trans hx359_3
               replace hx359_4 := (HB.out.cell (World.block_lt_of_cell? w _ hx359_4)).trans hx359_4
               replace p359 := eq_true p359
               replace q359 := eq_true q359
               have p360 : 0 ≤ (x5_2 : Int) := of_decide_eq_true (by first | (with_reducible assumption) | assumption)
               have q360 : x5_2 < (l1.length : Int) := of_decide_eq_true (by first | (with_reducible assumption) | assumption)
               obtain ⟨ad360, e360, hx360_0, hx360_1, hx360_2, hx360_3, hx360_4⟩ := at_T69 HR1.out x5_2 p360 q360
               (try rw [← Nbq24.out] at hx360_4)
               obtain rfl : ad357 = ad360 := (by injection e360)
               replace hx360_0 := (HB.out.cell (World.block_lt_of_cell? w _ hx360_0)).trans hx360_0
               replace hx360_1 := (HB.out.cell (World.block_lt_of_cell? w _ hx360_1)).trans hx360_1
               replace hx360_2 := (HB.out.cell (World.block_lt_of_cell? w _ hx360_2)).trans hx360_2
               replace hx360_3 := (HB.out.cell (World.block_lt_of_cell? w _ hx360_3)).trans hx360_3
               replace hx360_4 := (HB.out.cell (World.block_lt_of_cell? w _ hx360_4)).trans hx360_4
               replace p360 := eq_true p360
               replace q360 := eq_true q360
               have p361 : 0 ≤ (x5_2 : Int) := of_decide_eq_true (by first | (with_reducible assumption) | assumption)
               have q361 : x5_2 < (l1.length : Int) := of_decide_eq_true (by first | (with_reducible assumption) | assumption)
               obtain ⟨ad361, e361, hx361_0, hx361_1, hx361_2, hx361_3, hx361_4⟩ := at_T69 HR1.out x5_2 p361 q361
               (try rw [← Nbq24.out] at hx361_4)
               obtain rfl : ad357 = ad361 := (by injection e361)
               replace hx361_0 := (HB.out.cell (World.block_lt_of_cell? w _ hx361_0)).trans hx361_0
               replace hx361_1 := (HB.out.cell (World.block_lt_of_cell? w _ hx361_1)).trans hx361_1
               replace hx361_2 := (HB.out.cell (World.block_lt_of_cell? w _ hx361_2)).trans hx361_2
               replace hx361_3 := (HB.out.cell (World.block_lt_of_cell? w _ hx361_3)).trans hx361_3
               replace hx361_4 := (HB.out.cell (World.block_lt_of_cell? w _ hx361_4)).trans hx361_4
               replace p361 := eq_true p361
               replace q361 := eq_true q361
               have p362 : 0 ≤ (x5_2 : Int) := of_decide_eq_true (by first | (with_reducible assumption) | assumption)
               have q362 : x5_2 < (l1.length : Int) := of_decide_eq_true (by first | (with_reducible assumption) | assumption)
               obtain ⟨ad362, e362, hx362_0, hx362_1, hx362_2, hx362_3, hx362_4⟩ := at_T69 HR1.out x5_2 p362 q362
               (try rw [← Nbq24.out] at hx362_4)
               obtain rfl : ad357 = ad362 := (by injection e362)
               replace hx362_0 := (HB.out.cell (World.block_lt_of_cell? w _ hx362_0)).trans hx362_0
               replace hx362_1 := (HB.out.cell (World.block_lt_of_cell? w _ hx362_1)).trans hx362_1
               replace hx362_2 := (HB.out.cell (World.block_lt_of_cell? w _ hx362_2)).trans hx362_2
               replace hx362_3 := (HB.out.cell (World.block_lt_of_cell? w _ hx362_3)).trans hx362_3
               replace hx362_4 := (HB.out.cell (World.block_lt_of_cell? w _ hx362_4)).trans hx362_4
               replace p362 := eq_true p362
               replace q362 := eq_true q362
               have p363 : 0 ≤ (x5_2 : Int) := of_decide_eq_true (by first | (with_reducible assumption) | assumption)
               have q363 : x5_2 < (l1.length : Int) := of_decide_eq_true (by first | (with_reducible assumption) | assumption)
               obtain ⟨ad363, e363, hx363_0, hx363_1, hx363_2, hx363_3, hx363_4⟩ := at_T69 HR1.out x5_2 p363 q363
               (try rw [← Nbq24.out] at hx363_4)
               obtain rfl : ad357 = ad363 := (by injection e363)
               replace hx363_0 := (HB.out.cell (World.block_lt_of_cell? w _ hx363_0)).trans hx363_0
               replace hx363_1 := (HB.out.cell (World.block_lt_of_cell? w _ hx363_1)).trans hx363_1
               replace hx363_2 := (HB.out.cell (World.block_lt_of_cell? w _ hx363_2)).trans hx363_2
               replace hx363_3 := (HB.out.cell (World.block_lt_of_cell? w _ hx363_3)).trans hx363_3
               replace hx363_4 := (HB.out.cell (World.block_lt_of_cell? w _ hx363_4)).trans hx363_4
               replace p363 := eq_true p363
               replace q363 := eq_true q363
               go_wp2
               repeat (go_quiet (fail); try go_wp2)
               go_meet
               case rel => exact ⟨_, (true), (by first | rfl | (simp; done) | (simp [*]; done)), H', ⟨by have := HJ2.out; have := HK2.out; first | omega | exact Nat.le_refl _⟩, ⟨by (with_reducible repeat (first | refine blk_drewN ?_ _ | refine blk_drew ?_ | refine blk_alloc ?_ _)); exact BK355.out⟩, ⟨by repeat (first | (with_reducible first | exact HB.out | apply below_alloc | apply pw_below_drewN | apply below_drew1 | refine below_set ?_ GE355.out) | exact HB.out)⟩⟩
             ·rw [if_neg c23] at H
              have c23b0 : decide (0 < ((rd_T69 l1 x5_2).f3)) = false := decide_eq_false c23
              clear c23
              have H' := Aside0.mk H
              clear H
              have p357 : 0 ≤ (x5_2 : Int) := of_decide_eq_true (by first | (with_reducible assumption) | assumption)
              have q357 : x5_2 < (l1.length : Int) := of_decide_eq_true (by first | (with_reducible assumption) | assumption)
              obtain ⟨ad357, e357, hx357_0, hx357_1, hx357_2, hx357_3, hx357_4⟩ := at_T69 HR1.out x5_2 p357 q357
              cases e357
              replace hx357_0 := (HB.out.cell (World.block_lt_of_cell? w _ hx357_0)).trans hx357_0
              replace hx357_1 := (HB.out.cell (World.block_lt_of_cell? w _ hx357_1)).trans hx357_1
              replace hx357_2 := (HB.out.cell (World.block_lt_of_cell? w _ hx357_2)).trans hx357_2
              replace hx357_3 := (HB.out.cell (World.block_lt_of_cell? w _ hx357_3)).trans hx357_3
              replace hx357_4 := (HB.out.cell (World.block_lt_of_cell? w _ hx357_4)).trans hx357_4
              replace p357 := eq_true p357
              replace q357 := eq_true q357
              have p358 : 0 ≤ (x5_2 : Int) := of_decide_eq_true (by first | (with_reducible assumption) | assumption)
              have q358 : x5_2 < (l1.length : Int) := of_decide_eq_true (by first | (with_reducible assumption) | assumption)
              obtain ⟨ad358, e358, hx358_0, hx358_1, hx358_2, hx358_3, hx358_4⟩ := at_T69 HR1.out x5_2 p358 q358
              obtain rfl : ad357 = ad358 := (by injection e358)
              replace hx358_0 := (HB.out.cell (World.block_lt_of_cell? w _ hx358_0)).trans hx358_0
              replace hx358_1 := (HB.out.cell (World.block_lt_of_cell? w _ hx358_1)).trans hx358_1
              replace hx358_2 := (HB.out.cell (World.block_lt_of_cell? w _ hx358_2)).trans hx358_2
              replace hx358_3 := (HB.out.cell (World.block_lt_of_cell? w _ hx358_3)).trans hx358_3
              replace hx358_4 := (HB.out.cell (World.block_lt_of_cell? w _ hx358_4)).trans hx358_4
              replace p358 := eq_true p358
              replace q358 := eq_true q358
              have hcz28_0 : wr.cell? ⟨gb355, 0, none⟩ = some (.int .i64 a0_0) := (blk_cell BK355.out 0).trans rfl
              have hcz28_1 : wr.cell? ⟨gb355, 1, none⟩ = some (.int .i64 a0_1) := (blk_cell BK355.out 1).trans rfl
              have hcz28_2 : wr.cell? ⟨gb355, 2, none⟩ = some (.int .i64 a0_2) := (blk_cell BK355.out 2).trans rfl
              have hcz28_3 : wr.cell? ⟨gb355, 3, none⟩ = some (.int .i64 a0_3) := (blk_cell BK355.out 3).trans rfl
              have hcz28_4 : wr.cell? ⟨gb355, 4, none⟩ = some (.int .i64 a0_4) := (blk_cell BK355.out 4).trans rfl
              have hcz28_5 : wr.cell? ⟨gb355, 5, none⟩ = some (.int .i64 a0_5) := (blk_cell BK355.out 5).trans rfl
              have hcz28_6 : wr.cell? ⟨gb355, 6, none⟩ = some (.int .i64 a0_6) := (blk_cell BK355.out 6).trans rfl
              have hfz28_0 := blk_frozen BK355.out 0
              have hfz28_1 := blk_frozen BK355.out 1
              have hfz28_2 := blk_frozen BK355.out 2
              have hfz28_3 := blk_frozen BK355.out 3
              have hfz28_4 := blk_frozen BK355.out 4
              have hfz28_5 := blk_frozen BK355.out 5
              have hfz28_6 := blk_frozen BK355.out 6
              have p359 : 0 ≤ (x5_2 : Int) := of_decide_eq_true (by first | (with_reducible assumption) | assumption)
              have q359 : x5_2 < (l1.length : Int) := of_decide_eq_true (by first | (with_reducible assumption) | assumption)
              obtain ⟨ad359, e359, hx359_0, hx359_1, hx359_2, hx359_3, hx359_4⟩ := at_T69 HR1.out x5_2 p359 q359
              obtain rfl : ad357 = ad359 := (by injection e359)
              replace hx359_0 := (HB.out.cell (World.block_lt_of_cell? w _ hx359_0)).trans hx359_0
              replace hx359_1 := (HB.out.cell (World.block_lt_of_cell? w _ hx359_1)).trans hx359_1
              replace hx359_2 := (HB.out.cell (World.block_lt_of_cell? w _ hx359_2)).trans hx359_2
              replace hx359_3 := (HB.out.cell (World.block_lt_of_cell? w _ hx359_3)).trans hx359_3
              replace hx359_4 := (HB.out.cell (World.block_lt_of_cell? w _ hx359_4)).trans hx359_4
              replace p359 := eq_true p359
              replace q359 := eq_true q359
              have p360 : 0 ≤ (x5_2 : Int) := of_decide_eq_true (by first | (with_reducible assumption) | assumption)
              have q360 : x5_2 < (l1.length : Int) := of_decide_eq_true (by first | (with_reducible assumption) | assumption)
              obtain ⟨ad360, e360, hx360_0, hx360_1, hx360_2, hx360_3, hx360_4⟩ := at_T69 HR1.out x5_2 p360 q360
              obtain rfl : ad357 = ad360 := (by injection e360)
              replace hx360_0 := (HB.out.cell (World.block_lt_of_cell? w _ hx360_0)).trans hx360_0
              replace hx360_1 := (HB.out.cell (World.block_lt_of_cell? w _ hx360_1)).trans hx360_1
              replace hx360_2 := (HB.out.cell (World.block_lt_of_cell? w _ hx360_2)).trans hx360_2
              replace hx360_3 := (HB.out.cell (World.block_lt_of_cell? w _ hx360_3)).trans hx360_3
              replace hx360_4 := (HB.out.cell (World.block_lt_of_cell? w _ hx360_4)).trans hx360_4
              replace p360 := eq_true p360
              replace q360 := eq_true q360
              have p361 : 0 ≤ (x5_2 : Int) := of_decide_eq_true (by first | (with_reducible assumption) | assumption)
              have q361 : x5_2 < (l1.length : Int) := of_decide_eq_true (by first | (with_reducible assumption) | assumption)
              obtain ⟨ad361, e361, hx361_0, hx361_1, hx361_2, hx361_3, hx361_4⟩ := at_T69 HR1.out x5_2 p361 q361
              obtain rfl : ad357 = ad361 := (by injection e361)
              replace hx361_0 := (HB.out.cell (World.block_lt_of_cell? w _ hx361_0)).trans hx361_0
              replace hx361_1 := (HB.out.cell (World.block_lt_of_cell? w _ hx361_1)).trans hx361_1
              replace hx361_2 := (HB.out.cell (World.block_lt_of_cell? w _ hx361_2)).trans hx361_2
              replace hx361_3 := (HB.out.cell (World.block_lt_of_cell? w _ hx361_3)).trans hx361_3
              replace hx361_4 := (HB.out.cell (World.block_lt_of_cell? w _ hx361_4)).trans hx361_4
              replace p361 := eq_true p361
              replace q361 := eq_true q361
              have p362 : 0 ≤ (x5_2 : Int) := of_decide_eq_true (by first | (with_reducible assumption) | assumption)
              have q362 : x5_2 < (l1.length : Int) := of_decide_eq_true (by first | (with_reducible assumption) | assumption)
              obtain ⟨ad362, e362, hx362_0, hx362_1, hx362_2, hx362_3, hx362_4⟩ := at_T69 HR1.out x5_2 p362 q362
              obtain rfl : ad357 = ad362 := (by injection e362)
              replace hx362_0 := (HB.out.cell (World.block_lt_of_cell? w _ hx362_0)).trans hx362_0
              replace hx362_1 := (HB.out.cell (World.block_lt_of_cell? w _ hx362_1)).trans hx362_1
              replace hx362_2 := (HB.out.cell (World.block_lt_of_cell? w _ hx362_2)).trans hx362_2
              replace hx362_3 := (HB.out.cell (World.block_lt_of_cell? w _ hx362_3)).trans hx362_3
              replace hx362_4 := (HB.out.cell (World.block_lt_of_cell? w _ hx362_4)).trans hx362_4
              replace p362 := eq_true p362
              replace q362 := eq_true q362
              have p365 : 0 ≤ (x5_2 : Int) := of_decide_eq_true (by first | (with_reducible assumption) | assumption)
              have q365 : x5_2 < (l1.length : Int) := of_decide_eq_true (by first | (with_reducible assumption) | assumption)
              obtain ⟨ad365, e365, hx365_0, hx365_1, hx365_2, hx365_3, hx365_4⟩ := at_T69 HR1.out x5_2 p365 q365
              obtain rfl : ad357 = ad365 := (by injection e365)
              replace hx365_0 := (HB.out.cell (World.block_lt_of_cell? w _ hx365_0)).trans hx365_0
              replace hx365_1 := (HB.out.cell (World.block_lt_of_cell? w _ hx365_1)).trans hx365_1
              replace hx365_2 := (HB.out.cell (World.block_lt_of_cell? w _ hx365_2)).trans hx365_2
              replace hx365_3 := (HB.out.cell (World.block_lt_of_cell? w _ hx365_3)).trans hx365_3
              replace hx365_4 := (HB.out.cell (World.block_lt_of_cell? w _ hx365_4)).trans hx365_4
              replace p365 := eq_true p365
              replace q365 := eq_true q365
              go_wp2
              repeat (go_quiet (fail); try go_wp2)
              go_meet
              case rel => exact ⟨_, (decide (((rd_T69 l1 x5_2).f1) ≥ 9223372036854775808)), (by first | rfl | (simp; done) | (simp [*]; done)), H', ⟨by have := HJ2.out; have := HK2.out; first | omega | exact Nat.le_refl _⟩, ⟨by (with_reducible repeat (first | refine blk_drewN ?_ _ | refine blk_drew ?_ | refine blk_alloc ?_ _)); exact BK355.out⟩, ⟨by repeat (first | (with_reducible first | exact HB.out | apply below_alloc | apply pw_below_drewN | apply below_drew1 | refine below_set ?_ GE355.out) | exact HB.out)⟩⟩
        ·rw [if_neg c15] at H
         exact absurd H (by simp)
       case rest =>
        clear HC14
        try clear c1
        try clear c2
        try clear p2
        try clear q2
        try clear p3
        try clear q3
        try clear hx3
        try clear c13
        try clear c13b0
        try clear c15
        try clear c15b0
        try clear c16
        try clear c16b0
        try clear c17
        try clear c17b0
        try clear c19
        try clear c19b0
        try clear c21
        try clear c21b0
        try clear c23
        try clear c23b0
        try clear q24
        try clear c25
        try clear hcz18_0
        try clear hcz18_1
        try clear hcz18_2
        try clear hcz18_3
        try clear hcz18_4
        try clear hcz18_5
        try clear hcz18_6
        try clear hcz20_0
        try clear hcz20_1
        try clear hcz20_2
        try clear hcz20_3
        try clear hcz20_4
        try clear hcz20_5
        try clear hcz20_6
        try clear hcz22_0
        try clear hcz22_1
        try clear hcz22_2
        try clear hcz22_3
        try clear hcz22_4
        try clear hcz22_5
        try clear hcz22_6
        try clear hcz26_0
        try clear hcz26_1
        try clear hcz26_2
        try clear hcz26_3
        try clear hcz26_4
        try clear hcz26_5
        try clear hcz26_6
        try clear hcz27_0
        try clear hcz27_1
        try clear hcz27_2
        try clear hcz27_3
        try clear hcz27_4
        try clear hcz27_5
        try clear hcz27_6
        try clear hcz28_0
        try clear hcz28_1
        try clear hcz28_2
        try clear hcz28_3
        try clear hcz28_4
        try clear hcz28_5
        try clear hcz28_6
        try clear hfz10_5
        try clear hfz10_6
        try clear hfz18_0
        try clear hfz18_1
        try clear hfz18_2
        try clear hfz18_3
        try clear hfz18_4
        try clear hfz18_5
        try clear hfz18_6
        try clear hfz20_0
        try clear hfz20_1
        try clear hfz20_2
        try clear hfz20_3
        try clear hfz20_4
        try clear hfz20_5
        try clear hfz20_6
        try clear hfz22_0
        try clear hfz22_1
        try clear hfz22_2
        try clear hfz22_3
        try clear hfz22_4
        try clear hfz22_5
        try clear hfz22_6
        try clear hfz26_0
        try clear hfz26_1
        try clear hfz26_2
        try clear hfz26_3
        try clear hfz26_4
        try clear hfz26_5
        try clear hfz26_6
        try clear hfz27_0
        try clear hfz27_1
        try clear hfz27_2
        try clear hfz27_3
        try clear hfz27_4
        try clear hfz27_5
        try clear hfz27_6
        try clear hfz28_0
        try clear hfz28_1
        try clear hfz28_2
        try clear hfz28_3
        try clear hfz28_4
        try clear hfz28_5
        try clear hfz28_6
        try clear hfz7_0
        try clear hfz7_1
        try clear hfz7_2
        try clear hfz7_3
        try clear hfz7_4
        try clear hfz7_5
        try clear hfz7_6
        try clear hfz9_0
        try clear hfz9_1
        try clear hfz9_2
        try clear hfz9_3
        try clear hfz9_4
        try clear hfz9_5
        try clear hfz9_6
        try clear hx357_0
        try clear hx357_1
        try clear hx357_2
        try clear hx357_3
        try clear hx357_4
        try clear hx358_0
        try clear hx358_1
        try clear hx358_2
        try clear hx358_3
        try clear hx358_4
        try clear hx359_0
        try clear hx359_1
        try clear hx359_2
        try clear hx359_3
        try clear hx359_4
        try clear hx360_0
        try clear hx360_1
        try clear hx360_2
        try clear hx360_3
        try clear hx360_4
        try clear hx361_0
        try clear hx361_1
        try clear hx361_2
        try clear hx361_3
        try clear hx361_4
        try clear hx362_0
        try clear hx362_1
        try clear hx362_2
        try clear hx362_3
        try clear hx362_4
        try clear hx363_0
        try clear hx363_1
        try clear hx363_2
        try clear hx363_3
        try clear hx363_4
        try clear hx364_0
        try clear hx364_1
        try clear hx364_2
        try clear hx364_3
        try clear hx364_4
        try clear hx365_0
        try clear hx365_1
        try clear hx365_2
        try clear hx365_3
        try clear hx365_4
        try clear p2
        try clear p357
        try clear p358
        try clear p359
        try clear p360
        try clear p361
        try clear p362
        try clear p363
        try clear p364
        try clear p365
        try clear q357
        try clear q358
        try clear q359
        try clear q360
        try clear q361
        try clear q362
        try clear q363
        try clear q364
        try clear q365
        obtain ⟨kq, x82_13, rfl, HA, HJ13, BK355, HB⟩ := hcut
        cases kq with
        | zero => exact absurd HA.out (by simp [stepstoneref11_Right.j2])
        | succ kj13 =>
         have H := HA.out
         clear HA
         simp only [stepstoneref11_Right.j2] at H
         by_cases c29 : x82_13 = true
         ·subst c29
          have H1 : (some false) = some r := by rw [if_pos rfl] at H; exact H
          clear H
          have H := H1
          clear H1
          obtain rfl := Option.some.inj H
          go_wp2
          repeat (go_quiet (fail); try go_wp2)
          go_ret
          exact ⟨by first | rfl | (simp [errW_none, errW_some] <;> rfl) | (simp [*, errW_none, errW_some] <;> rfl), by repeat (first | (with_reducible first | exact HB.out | apply below_alloc | apply pw_below_drewN | apply below_drew1 | refine below_set ?_ GE355.out) | exact HB.out)⟩
         ·replace c29 := Bool.eq_false_iff.mpr c29
          subst c29
          have H1 : (if x5_2 > 0 then (if 0 ≤ (wrap64 (x5_2 - 1)) then (if (wrap64 (x5_2 - 1)) < (l1.length : Int) then (if 0 ≤ x5_2 then (if x5_2 < (l1.length : Int) then (if ((rd_T69 l1 (wrap64 (x5_2 - 1))).f0) ≥ ((rd_T69 l1 x5_2).f0) then (some false) else (stepstoneref11_Right.l0 kj13 l1 (wrap64 (x5_2 + 1)) a0_0 a0_1 a0_2 a0_3 a0_4 a0_5 a0_6)) else (none)) else (none)) else (none)) else (none)) else (stepstoneref11_Right.l0 kj13 l1 (wrap64 (x5_2 + 1)) a0_0 a0_1 a0_2 a0_3 a0_4 a0_5 a0_6)) = some r := by rw [if_neg (show ¬ (false = true) by decide)] at H; exact H
          clear H
          have H := H1
          clear H1
          by_cases c30 : x5_2 > 0
          ·rw [if_pos c30] at H
           have c30b0 : decide (0 < x5_2) = true := decide_eq_true c30
           clear c30
           obtain ⟨ji31, hji31⟩ : ∃ j_ : Int, (wrap64 (x5_2 - 1)) = j_ := ⟨_, rfl⟩
           replace H : (if 0 ≤ (ji31) then (if (ji31) < (l1.length : Int) then (if 0 ≤ x5_2 then (if x5_2 < (l1.length : Int) then (if ((rd_T69 l1 (ji31)).f0) ≥ ((rd_T69 l1 x5_2).f0) then (some false) else (stepstoneref11_Right.l0 kj13 l1 (wrap64 (x5_2 + 1)) a0_0 a0_1 a0_2 a0_3 a0_4 a0_5 a0_6)) else (none)) else (none)) else (none)) else (none)) = some r := by first | (rw [hji31] at H; exact H) | (simp only [hji31] at H ⊢; exact H)
           have hji31w : (IntKind.i64.wrap (x5_2 - 1)) = ji31 := (i64_w _).trans hji31
           by_cases c32 : 0 ≤ (ji31)
           ·rw [if_pos c32] at H
            have c32b0 : decide (0 ≤ (ji31)) = true := decide_eq_true c32
            clear c32
            by_cases c33 : (ji31) < (l1.length : Int)
            ·rw [if_pos c33] at H
             have c33b0 : decide ((ji31) < (l1.length : Int)) = true := decide_eq_true c33
             clear c33
             by_cases c34 : 0 ≤ x5_2
             ·rw [if_pos c34] at H
              have c34b0 : decide (0 ≤ x5_2) = true := decide_eq_true c34
              clear c34
              by_cases c35 : x5_2 < (l1.length : Int)
              ·rw [if_pos c35] at H
               have c35b0 : decide (x5_2 < (l1.length : Int)) = true := decide_eq_true c35
               clear c35
               by_cases c36 : ((rd_T69 l1 (ji31)).f0) ≥ ((rd_T69 l1 x5_2).f0)
               ·rw [if_pos c36] at H
                have c36b0 : decide (((rd_T69 l1 x5_2).f0) ≤ ((rd_T69 l1 (ji31)).f0)) = true := decide_eq_true c36
                clear c36
                obtain rfl := Option.some.inj H
                have p366 : 0 ≤ ((ji31) : Int) := of_decide_eq_true (by first | (with_reducible assumption) | assumption)
                have q366 : (ji31) < (l1.length : Int) := of_decide_eq_true (by first | (with_reducible assumption) | assumption)
                obtain ⟨ad366, e366, hx366_0, hx366_1, hx366_2, hx366_3, hx366_4⟩ := at_T69 HR1.out (ji31) p366 q366
                cases e366
                replace hx366_0 := (HB.out.cell (World.block_lt_of_cell? w _ hx366_0)).trans hx366_0
                replace hx366_1 := (HB.out.cell (World.block_lt_of_cell? w _ hx366_1)).trans hx366_1
                replace hx366_2 := (HB.out.cell (World.block_lt_of_cell? w _ hx366_2)).trans hx366_2
                replace hx366_3 := (HB.out.cell (World.block_lt_of_cell? w _ hx366_3)).trans hx366_3
                replace hx366_4 := (HB.out.cell (World.block_lt_of_cell? w _ hx366_4)).trans hx366_4
                replace p366 := eq_true p366
                replace q366 := eq_true q366
                have p367 : 0 ≤ (x5_2 : Int) := of_decide_eq_true (by first | (with_reducible assumption) | assumption)
                have q367 : x5_2 < (l1.length : Int) := of_decide_eq_true (by first | (with_reducible assumption) | assumption)
                obtain ⟨ad367, e367, hx367_0, hx367_1, hx367_2, hx367_3, hx367_4⟩ := at_T69 HR1.out x5_2 p367 q367
                obtain rfl : ad366 = ad367 := (by injection e367)
                replace hx367_0 := (HB.out.cell (World.block_lt_of_cell? w _ hx367_0)).trans hx367_0
                replace hx367_1 := (HB.out.cell (World.block_lt_of_cell? w _ hx367_1)).trans hx367_1
                replace hx367_2 := (HB.out.cell (World.block_lt_of_cell? w _ hx367_2)).trans hx367_2
                replace hx367_3 := (HB.out.cell (World.block_lt_of_cell? w _ hx367_3)).trans hx367_3
                replace hx367_4 := (HB.out.cell (World.block_lt_of_cell? w _ hx367_4)).trans hx367_4
                replace p367 := eq_true p367
                replace q367 := eq_true q367
                go_wp2
                repeat (go_quiet (fail); try go_wp2)
                go_ret
                exact ⟨by first | rfl | (simp [errW_none, errW_some] <;> rfl) | (simp only [← hji31]; first | rfl | (simp [errW_none, errW_some] <;> rfl)) | (simp [*, errW_none, errW_some] <;> rfl), by repeat (first | (with_reducible first | exact HB.out | apply below_alloc | apply pw_below_drewN | apply below_drew1 | refine below_set ?_ GE355.out) | exact HB.out)⟩
               ·rw [if_neg c36] at H
                have c36b0 : decide (((rd_T69 l1 x5_2).f0) ≤ ((rd_T69 l1 (ji31)).f0)) = false := decide_eq_false c36
                clear c36
                have H' := Aside0.mk H
                clear H
                have p366 : 0 ≤ ((ji31) : Int) := of_decide_eq_true (by first | (with_reducible assumption) | assumption)
                have q366 : (ji31) < (l1.length : Int) := of_decide_eq_true (by first | (with_reducible assumption) | assumption)
                obtain ⟨ad366, e366, hx366_0, hx366_1, hx366_2, hx366_3, hx366_4⟩ := at_T69 HR1.out (ji31) p366 q366
                cases e366
                replace hx366_0 := (HB.out.cell (World.block_lt_of_cell? w _ hx366_0)).trans hx366_0
                replace hx366_1 := (HB.out.cell (World.block_lt_of_cell? w _ hx366_1)).trans hx366_1
                replace hx366_2 := (HB.out.cell (World.block_lt_of_cell? w _ hx366_2)).trans hx366_2
                replace hx366_3 := (HB.out.cell (World.block_lt_of_cell? w _ hx366_3)).trans hx366_3
                replace hx366_4 := (HB.out.cell (World.block_lt_of_cell? w _ hx366_4)).trans hx366_4
                replace p366 := eq_true p366
                replace q366 := eq_true q366
                have p367 : 0 ≤ (x5_2 : Int) := of_decide_eq_true (by first | (with_reducible assumption) | assumption)
                have q367 : x5_2 < (l1.length : Int) := of_decide_eq_true (by first | (with_reducible assumption) | assumption)
                obtain ⟨ad367, e367, hx367_0, hx367_1, hx367_2, hx367_3, hx367_4⟩ := at_T69 HR1.out x5_2 p367 q367
                obtain rfl : ad366 = ad367 := (by injection e367)
                replace hx367_0 := (HB.out.cell (World.block_lt_of_cell? w _ hx367_0)).trans hx367_0
                replace hx367_1 := (HB.out.cell (World.block_lt_of_cell? w _ hx367_1)).trans hx367_1
                replace hx367_2 := (HB.out.cell (World.block_lt_of_cell? w _ hx367_2)).trans hx367_2
                replace hx367_3 := (HB.out.cell (World.block_lt_of_cell? w _ hx367_3)).trans hx367_3
                replace hx367_4 := (HB.out.cell (World.block_lt_of_cell? w _ hx367_4)).trans hx367_4
                replace p367 := eq_true p367
                replace q367 := eq_true q367
                go_wp2
                repeat (go_quiet (fail); try go_wp2)
                go_roundg kj13
                case measure => have := HJ2.out; have := HK2.out; have := HJ13.out; omega
                case rel => exact ⟨(wrap64 (x5_2 + 1)), (by first | rfl | (simp; done) | (simp [*]; done)), H', ⟨by have := HJ2.out; have := HK2.out; have := HJ13.out; omega⟩, ⟨by (with_reducible repeat (first | refine blk_drewN ?_ _ | refine blk_drew ?_ | refine blk_alloc ?_ _)); exact BK355.out⟩, ⟨by repeat (first | (with_reducible first | exact HB.out | apply below_alloc | apply pw_below_drewN | apply below_drew1 | refine below_set ?_ GE355.out) | exact HB.out)⟩⟩
              ·rw [if_neg c35] at H
               exact absurd H (by simp)
             ·rw [if_neg c34] at H
              exact absurd H (by simp)
            ·rw [if_neg c33] at H
             exact absurd H (by simp)
           ·rw [if_neg c32] at H
            exact absurd H (by simp)
          ·rw [if_neg c30] at H
           have c30b0 : decide (0 < x5_2) = false := decide_eq_false c30
           clear c30
           have H' := Aside0.mk H
           clear H
           go_wp2
           repeat (go_quiet (fail); try go_wp2)
           go_roundg kj13
           case measure => have := HJ2.out; have := HK2.out; have := HJ13.out; omega
           case rel => exact ⟨(wrap64 (x5_2 + 1)), (by first | rfl | (simp; done) | (simp [*]; done)), H', ⟨by have := HJ2.out; have := HK2.out; have := HJ13.out; omega⟩, ⟨by (with_reducible repeat (first | refine blk_drewN ?_ _ | refine blk_drew ?_ | refine blk_alloc ?_ _)); exact BK355.out⟩, ⟨by repeat (first | (with_reducible first | exact HB.out | apply below_alloc | apply pw_below_drewN | apply below_drew1 | refine below_set ?_ GE355.out) | exact HB.out)⟩⟩
      ·rw [if_neg c13] at H
       have c13b0 : decide (x5_2 < (l1.length : Int)) = false := decide_eq_false c13
       clear c13
       obtain rfl := Option.some.inj H
       go_wp2
       repeat (go_quiet (fail); try go_wp2)
       go_ret
       exact ⟨by first | rfl | (simp [errW_none, errW_some] <;> rfl) | (simp [*, errW_none, errW_some] <;> rfl), by repeat (first | (with_reducible first | exact HB.out | apply below_alloc | apply pw_below_drewN | apply below_drew1 | refine below_set ?_ GE355.out) | exact HB.out)⟩
end Go.Proofs.Ythbkncklliiooaa.Q
