-- PRINTED by print.py (a twelfth state) out of the translation. Not trusted: Lean checks it.
import Derived.Test.YthbkncklliiooaaQx0
namespace Go.Proofs.Ythbkncklliiooaa.Q
open Go.RowKit Go.Proofs.YthbkncklliiooaaW.PrintWords Go.Proofs.YthbkncklliiooaaW.PrintLast Go.Proofs.YthbkncklliiooaaW.PrintMore
attribute [local go_sem] max2_int min2_int max_two min_two max_three min_three max_four min_four   -- for this text's walks alone
set_option linter.unusedVariables false
set_option linter.unusedSimpArgs false
-- NOT PRINTED: function 8 (stepstonelaw04_PlanMore)
-- NOT PRINTED: function 33 (mem_Mem_Bank)
-- NOT PRINTED: function 58 (bank_Of)
-- NOT PRINTED: function 37 (mem_Of)
/-! ### stepstoneref03_Of: function 75 -/
def stepstoneref03_Of.f (l0 : List Int) : Option (List Int × Int × Int × Int × Int × Int × Int × Bool) := (some (([] : List Int) : List Int)).bind fun y234 => (if y234.length + l0.length < 17592186044416 then (some ((y234 ++ l0), 0, 0, 0, 0, 0, 0, false)) else (none))
set_option maxHeartbeats 8000000 in
set_option maxRecDepth 100000 in
theorem stepstoneref03_Of.calls (A0 : Option Addr) (c0 : Nat) (l0 : List Int) (r1 : List Int) (r2 : Int) (r3 : Int) (r4 : Int) (r5 : Int) (r6 : Int) (r7 : Int) (r8 : Bool) (w : World) (hr0 : Kd.C (Kd.int .u64) w A0 l0.length l0) (hc0 : l0.length ≤ c0) (h : stepstoneref03_Of.f l0 = some (r1, r2, r3, r4, r5, r6, r7, r8)) :
  Calls Try.prog 75 #[.slice A0 l0.length c0] w fun e w' => ∃ v0_ : Value, e = .returned (.agg #[v0_, .int .i64 r2, .int .i64 r3, .int .i64 r4, .int .u64 r5, .int .u64 r6, .int .u64 r7, .bool r8]) ∧ Kd.R (Kd.int .u64) 40 w' w.heap.size (fun _ => True) v0_ r1 ∧ Below w.heap.size w w' := by
 have hu48 := Try.underlying48
 have HR0 := Aside0.mk hr0
 have HC0 := Aside0.mk hc0
 clear hr0 hc0
 have HB := Aside0.mk (Below.refl w.heap.size w)
 have H : ((some (([] : List Int) : List Int)).bind fun y234 => (if y234.length + l0.length < 17592186044416 then (some ((y234 ++ l0), 0, 0, 0, 0, 0, 0, false)) else (none))) = some (r1, r2, r3, r4, r5, r6, r7, r8) := h
 clear h
 obtain ⟨y234, hy234⟩ : ∃ y_ : List Int, y_ = (([] : List Int)) := ⟨_, rfl⟩
 replace H : (if y234.length + l0.length < 17592186044416 then (some ((y234 ++ l0), 0, 0, 0, 0, 0, 0, false)) else (none)) = some (r1, r2, r3, r4, r5, r6, r7, r8) := by first | (rw [hy234]; with_reducible exact H) | (have H2_ := (Option.bind_some _ _).symm.trans H; rw [hy234]; with_reducible exact H2_) | (have H2_ := (Option.bind_some _ _).symm.trans H; with_reducible exact H2_) | with_reducible exact H | (rw [hy234]; exact H) | exact H
 have Ny234 := Aside0.mk hy234
 clear hy234
 by_cases c2 : y234.length + l0.length < 17592186044416
 ·rw [if_pos c2] at H
  have LMc2 := Aside0.mk c2
  clear c2
  obtain ⟨y237, hy237⟩ : ∃ y_ : List Int, y_ = (y234 ++ l0) := ⟨_, rfl⟩
  replace H : (some (y237, 0, 0, 0, 0, 0, 0, false)) = some (r1, r2, r3, r4, r5, r6, r7, r8) := by first | (rw [hy237]; with_reducible exact H) | (have H2_ := (Option.bind_some _ _).symm.trans H; rw [hy237]; with_reducible exact H2_) | (have H2_ := (Option.bind_some _ _).symm.trans H; with_reducible exact H2_) | with_reducible exact H | (rw [hy237]; exact H) | exact H
  have Ny237 := Aside0.mk hy237
  clear hy237
  simp only [Option.some.injEq, Prod.mk.injEq] at H
  obtain ⟨rfl, rfl, rfl, rfl, rfl, rfl, rfl, rfl⟩ := H
  go_enter Try.func75, Try.ntmps75
  go_wp2_with (first | ((with_reducible refine gate_dst (N := 2) rfl ?_); refine box_event ?hg (N := 2) ?hd (cs := #[.slice none 0 0, .int .i64 0, .int .i64 0, .int .i64 0, .int .u64 0, .int .u64 0, .int .u64 0, .bool false]) (t := 48) ?hr ?_; (case hd => rfl); (case hg => rfl); (case hr => first | (go_simp; done) | (go_simp; rfl)); intro gb233 hg w3 hbox hb; have n0_ := Aside0.mk (below_step (by repeat (first | (with_reducible first | exact HB.out | apply below_alloc | apply pw_below_drewN | apply below_drew1) | exact HB.out)) hb); have n1_ := Aside0.mk (hbox); have n2_ := Aside0.mk ((by rw [hg]; exact (below_size (by repeat (first | (with_reducible first | exact HB.out | apply below_alloc | apply pw_below_drewN | apply below_drew1) | exact HB.out))) : w.heap.size ≤ gb233)); have n3_ := Aside0.mk ((by rw [hg]; exact (below_size (by repeat (first | (with_reducible first | exact HB.out | apply below_alloc | apply pw_below_drewN | apply below_drew1) | exact HB.out))) : w.heap.size ≤ gb233)); clear HB; have HB := n0_; have BK233 := n1_; have GW233 := n2_; have GE233 := n3_; clear n0_ n1_ n2_ n3_; clear hb hbox hg) | ((with_reducible refine gate_dst (N := 3) rfl ?_); refine Kd.R_lit (Kd.int .u64) _ 40 ?hg (N := 3) ?hd (xs := ([] : List Int)) (inner := []) (ok := fun _ => True) (okp := fun _ => True) ?hr ?hp (fun _ hk => hk) trivial (Below.refl _ _) (Nat.le_refl _) (by simp) ?_; (case hd => rfl); (case hg => rfl); (case hr => first | (go_simp; done) | (go_simp; rfl)); (case hp => exact (Reps.none _ _)); intro v235 w4 ho5 hb hg_ hnew_; clear hg_ hnew_; (first | rw [← Ny234.out] at ho5 | (simp only [Int.reduceToNat] at ho5; rw [← Ny234.out] at ho5)); have n0_ := Aside0.mk (Kd.R_lower ho5 (below_size (by repeat (first | (with_reducible first | exact HB.out | apply below_alloc | apply pw_below_drewN | apply below_drew1 | refine below_set ?_ GE233.out) | exact HB.out)))); have n1_ := Aside0.mk (blk_below (g := gb233) (o := .cells #[.slice none 0 0, .int .i64 0, .int .i64 0, .int .i64 0, .int .u64 0, .int .u64 0, .int .u64 0, .bool false] 48 (0, 0)) (by (with_reducible repeat (first | refine blk_drewN ?_ _ | refine blk_drew ?_ | refine blk_alloc ?_ _)); exact BK233.out) hb); have n2_ := Aside0.mk (below_step (by repeat (first | (with_reducible first | exact HB.out | apply below_alloc | apply pw_below_drewN | apply below_drew1 | refine below_set ?_ GE233.out) | exact HB.out)) hb); clear BK233; clear HB; have HO236 := n0_; have BK233 := n1_; have HB := n2_; clear n0_ n1_ n2_; clear hb ho5) | ((with_reducible refine gate_builtin (b := .append) (xs := #[.tmp 3, .tmp 4]) rfl ?_); at_builtin; refine Kd.R_append_rows (Kd.int .u64) (w0 := w) w.heap.size rfl (.tmp 3) (.tmp 4) 39 40 (.int .u64 0) 8 rfl Try.underlying39 info40 rfl (by decide) (by omega) v235 y234 l0 _ _ _ (fun _ => True) (fun _ => False) rfl rfl ?aO ?aR (fun _ _ h => h) (fun _ h => h.elim) ?aF ?aB ?aS ?aL ?_; (case aR => repeat (first | exact (Kd.C_below HR0.out HB.out) | (with_reducible refine Kd.C_alloc ?_ _) | (with_reducible refine Kd.C_drewN ?_ _) | (with_reducible refine Kd.C_drew ?_))); (case aB => exact (by repeat (first | (with_reducible first | exact HB.out | apply below_alloc | apply pw_below_drewN | apply below_drew1 | refine below_set ?_ GE233.out) | exact HB.out))); (case aF => exact (fun _ _ => trivial)); (case aO => exact (by (with_reducible repeat (first | apply Kd.R_alloc | apply Kd.R_drewN | apply Kd.R_drew)); exact HO236.out)); (case aS => exact (below_size (by repeat (first | (with_reducible first | exact HB.out | apply below_alloc | apply pw_below_drewN | apply below_drew1 | refine below_set ?_ GE233.out) | exact HB.out)))); (case aL => have := LMc2.out; omega); intro v238 w6 ho hb hg hat; rw [← Ny237.out] at ho; have n0_ := Aside0.mk (blk_grown (g := gb233) (o := .cells #[.slice none 0 0, .int .i64 0, .int .i64 0, .int .i64 0, .int .u64 0, .int .u64 0, .int .u64 0, .bool false] 48 (0, 0)) (by (with_reducible repeat (first | refine blk_drewN ?_ _ | refine blk_drew ?_ | refine blk_alloc ?_ _)); exact BK233.out) hg (Kd.R_ne HO236.out BK233.out (by decide))); have n1_ := Aside0.mk (hb); have n2_ := Aside0.mk (ho); clear BK233; clear HB; clear HO236; have BK233 := n0_; have HB := n1_; have HO239 := n2_; clear n0_ n1_ n2_; clear ho hb hg hat; obtain ⟨Ao7, co7, eo7⟩ := Kd.R_slice HO239.out; subst eo7; have hcz8_0 : w6.cell? ⟨gb233, 0, none⟩ = some (.slice none 0 0) := (blk_cell BK233.out 0).trans rfl; have hcz8_1 : w6.cell? ⟨gb233, 1, none⟩ = some (.int .i64 0) := (blk_cell BK233.out 1).trans rfl; have hcz8_2 : w6.cell? ⟨gb233, 2, none⟩ = some (.int .i64 0) := (blk_cell BK233.out 2).trans rfl; have hcz8_3 : w6.cell? ⟨gb233, 3, none⟩ = some (.int .i64 0) := (blk_cell BK233.out 3).trans rfl; have hcz8_4 : w6.cell? ⟨gb233, 4, none⟩ = some (.int .u64 0) := (blk_cell BK233.out 4).trans rfl; have hcz8_5 : w6.cell? ⟨gb233, 5, none⟩ = some (.int .u64 0) := (blk_cell BK233.out 5).trans rfl; have hcz8_6 : w6.cell? ⟨gb233, 6, none⟩ = some (.int .u64 0) := (blk_cell BK233.out 6).trans rfl; have hcz8_7 : w6.cell? ⟨gb233, 7, none⟩ = some (.bool false) := (blk_cell BK233.out 7).trans rfl; have hfz8_0 := blk_frozen BK233.out 0; have hfz8_1 := blk_frozen BK233.out 1; have hfz8_2 := blk_frozen BK233.out 2; have hfz8_3 := blk_frozen BK233.out 3; have hfz8_4 := blk_frozen BK233.out 4; have hfz8_5 := blk_frozen BK233.out 5; have hfz8_6 := blk_frozen BK233.out 6; have hfz8_7 := blk_frozen BK233.out 7))
  refine bodyPost_ret (results_cell_row rfl _ _ gb233 48 #[.slice Ao7 y237.length co7, .int .i64 0, .int .i64 0, .int .i64 0, .int .u64 0, .int .u64 0, .int .u64 0, .bool false] (0, 0) _ rfl (by (with_reducible repeat (first | refine blk_drewN ?_ _ | refine blk_drew ?_ | refine blk_alloc ?_ _)); refine blk_put (cs := #[.slice Ao7 y237.length co7, .int .i64 0, .int .i64 0, .int .i64 0, .int .u64 0, .int .u64 0, .int .u64 0, .bool false]) ?_ 7 _ rfl; (with_reducible repeat (first | refine blk_drewN ?_ _ | refine blk_drew ?_ | refine blk_alloc ?_ _)); refine blk_put (cs := #[.slice Ao7 y237.length co7, .int .i64 0, .int .i64 0, .int .i64 0, .int .u64 0, .int .u64 0, .int .u64 0, .bool false]) ?_ 6 _ rfl; (with_reducible repeat (first | refine blk_drewN ?_ _ | refine blk_drew ?_ | refine blk_alloc ?_ _)); refine blk_put (cs := #[.slice Ao7 y237.length co7, .int .i64 0, .int .i64 0, .int .i64 0, .int .u64 0, .int .u64 0, .int .u64 0, .bool false]) ?_ 5 _ rfl; (with_reducible repeat (first | refine blk_drewN ?_ _ | refine blk_drew ?_ | refine blk_alloc ?_ _)); refine blk_put (cs := #[.slice Ao7 y237.length co7, .int .i64 0, .int .i64 0, .int .i64 0, .int .u64 0, .int .u64 0, .int .u64 0, .bool false]) ?_ 4 _ rfl; (with_reducible repeat (first | refine blk_drewN ?_ _ | refine blk_drew ?_ | refine blk_alloc ?_ _)); refine blk_put (cs := #[.slice Ao7 y237.length co7, .int .i64 0, .int .i64 0, .int .i64 0, .int .u64 0, .int .u64 0, .int .u64 0, .bool false]) ?_ 3 _ rfl; (with_reducible repeat (first | refine blk_drewN ?_ _ | refine blk_drew ?_ | refine blk_alloc ?_ _)); refine blk_put (cs := #[.slice Ao7 y237.length co7, .int .i64 0, .int .i64 0, .int .i64 0, .int .u64 0, .int .u64 0, .int .u64 0, .bool false]) ?_ 2 _ rfl; (with_reducible repeat (first | refine blk_drewN ?_ _ | refine blk_drew ?_ | refine blk_alloc ?_ _)); refine blk_put (cs := #[.slice Ao7 y237.length co7, .int .i64 0, .int .i64 0, .int .i64 0, .int .u64 0, .int .u64 0, .int .u64 0, .bool false]) ?_ 1 _ rfl; (with_reducible repeat (first | refine blk_drewN ?_ _ | refine blk_drew ?_ | refine blk_alloc ?_ _)); refine blk_put (cs := #[.slice none 0 0, .int .i64 0, .int .i64 0, .int .i64 0, .int .u64 0, .int .u64 0, .int .u64 0, .bool false]) ?_ 0 _ rfl; (with_reducible repeat (first | refine blk_drewN ?_ _ | refine blk_drew ?_ | refine blk_alloc ?_ _)); exact BK233.out) Try.underlying48 rfl (by kernel_rfl)) rfl ?_
  exact ⟨_, by first | rfl | (simp [errW_none, errW_some] <;> rfl) | (simp [*, errW_none, errW_some] <;> rfl), by (with_reducible repeat (first | apply Kd.R_alloc | apply Kd.R_drewN | apply Kd.R_drew)); exact Kd.R_mono (Kd.R_far (p := ⟨gb233, 7, none⟩) (Kd.R_far (p := ⟨gb233, 6, none⟩) (Kd.R_far (p := ⟨gb233, 5, none⟩) (Kd.R_far (p := ⟨gb233, 4, none⟩) (Kd.R_far (p := ⟨gb233, 3, none⟩) (Kd.R_far (p := ⟨gb233, 2, none⟩) (Kd.R_far (p := ⟨gb233, 1, none⟩) (Kd.R_far (p := ⟨gb233, 0, none⟩) (Kd.R_types HO239.out BK233.out (by decide)) (fun _ hk => hk.2) (.slice Ao7 y237.length co7)) (fun _ hk => hk.2) (.int .i64 0)) (fun _ hk => hk.2) (.int .i64 0)) (fun _ hk => hk.2) (.int .i64 0)) (fun _ hk => hk.2) (.int .u64 0)) (fun _ hk => hk.2) (.int .u64 0)) (fun _ hk => hk.2) (.int .u64 0)) (fun _ hk => hk.2) (.bool false)) (fun _ hk => trivial), by repeat (first | (with_reducible first | exact HB.out | apply below_alloc | apply pw_below_drewN | apply below_drew1 | refine below_set ?_ GE233.out) | exact HB.out)⟩
 ·rw [if_neg c2] at H
  exact absurd H (by simp)
/-! ### stepstoneref05_Of: function 55 -/
def stepstoneref05_Of.f (a0_0 : Int) (a0_1 : Int) (a0_2 : Int) (a0_3 : Int) (a0_4 : Int) (a0_5 : Int) (a0_6 : Int) (l1 : List Int) : Option (Int × Int × Int × Int × Int × Int × Int × List Int × Int × Int × Int × Int × Int × Int × Bool) := (stepstoneref03_Of.f l1).bind fun bt242 => (some (a0_0, a0_1, a0_2, a0_3, a0_4, a0_5, a0_6, bt242.1, bt242.2.1, bt242.2.2.1, bt242.2.2.2.1, bt242.2.2.2.2.1, bt242.2.2.2.2.2.1, bt242.2.2.2.2.2.2.1, bt242.2.2.2.2.2.2.2))
set_option maxHeartbeats 8000000 in
set_option maxRecDepth 100000 in
theorem stepstoneref05_Of.calls (a0_0 : Int) (a0_1 : Int) (a0_2 : Int) (a0_3 : Int) (a0_4 : Int) (a0_5 : Int) (a0_6 : Int) (A1 : Option Addr) (c1 : Nat) (l1 : List Int) (r1 : Int) (r2 : Int) (r3 : Int) (r4 : Int) (r5 : Int) (r6 : Int) (r7 : Int) (r8 : List Int) (r9 : Int) (r10 : Int) (r11 : Int) (r12 : Int) (r13 : Int) (r14 : Int) (r15 : Bool) (w : World) (hr1 : Kd.C (Kd.int .u64) w A1 l1.length l1) (hc1 : l1.length ≤ c1) (h : stepstoneref05_Of.f a0_0 a0_1 a0_2 a0_3 a0_4 a0_5 a0_6 l1 = some (r1, r2, r3, r4, r5, r6, r7, r8, r9, r10, r11, r12, r13, r14, r15)) :
  Calls Try.prog 55 #[.agg #[.int .i64 a0_0, .int .i64 a0_1, .int .i64 a0_2, .int .i64 a0_3, .int .i64 a0_4, .int .i64 a0_5, .int .i64 a0_6], .slice A1 l1.length c1] w fun e w' => ∃ v7_ : Value, e = .returned (.agg #[.int .i64 r1, .int .i64 r2, .int .i64 r3, .int .i64 r4, .int .i64 r5, .int .i64 r6, .int .i64 r7, v7_, .int .i64 r9, .int .i64 r10, .int .i64 r11, .int .u64 r12, .int .u64 r13, .int .u64 r14, .bool r15]) ∧ Kd.R (Kd.int .u64) 40 w' w.heap.size (fun _ => True) v7_ r8 ∧ Below w.heap.size w w' := by
 have hu23 := Try.underlying23
 have hu50 := Try.underlying50
 have HR1 := Aside0.mk hr1
 have HC1 := Aside0.mk hc1
 clear hr1 hc1
 have HB := Aside0.mk (Below.refl w.heap.size w)
 have H : ((stepstoneref03_Of.f l1).bind fun bt242 => (some (a0_0, a0_1, a0_2, a0_3, a0_4, a0_5, a0_6, bt242.1, bt242.2.1, bt242.2.2.1, bt242.2.2.2.1, bt242.2.2.2.2.1, bt242.2.2.2.2.2.1, bt242.2.2.2.2.2.2.1, bt242.2.2.2.2.2.2.2))) = some (r1, r2, r3, r4, r5, r6, r7, r8, r9, r10, r11, r12, r13, r14, r15) := h
 clear h
 replace H := Option.bind_eq_some_iff.mp H
 obtain ⟨⟨t242, t245, t246, t247, t248, t249, t250, t251⟩, A30, H⟩ := H
 replace H : (some (a0_0, a0_1, a0_2, a0_3, a0_4, a0_5, a0_6, t242, t245, t246, t247, t248, t249, t250, t251)) = some (r1, r2, r3, r4, r5, r6, r7, r8, r9, r10, r11, r12, r13, r14, r15) := H
 have A3 := Aside0.mk A30
 clear A30
 simp only [Option.some.injEq, Prod.mk.injEq] at H
 obtain ⟨rfl, rfl, rfl, rfl, rfl, rfl, rfl, rfl, rfl, rfl, rfl, rfl, rfl, rfl, rfl⟩ := H
 go_enter Try.func55, Try.ntmps55
 try go_wp2_with (first | ((with_reducible refine gate_dst (N := 2) rfl ?_); refine box_event ?hg (N := 2) ?hd (cs := #[.int .i64 a0_0, .int .i64 a0_1, .int .i64 a0_2, .int .i64 a0_3, .int .i64 a0_4, .int .i64 a0_5, .int .i64 a0_6]) (t := 23) ?hr ?_; (case hd => rfl); (case hg => rfl); (case hr => first | (go_simp; done) | (go_simp; rfl)); intro gb240 hg w4 hbox hb; have n0_ := Aside0.mk (below_step (by repeat (first | (with_reducible first | exact HB.out | apply below_alloc | apply pw_below_drewN | apply below_drew1) | exact HB.out)) hb); have n1_ := Aside0.mk (hbox); have n2_ := Aside0.mk ((by rw [hg]; exact (below_size (by repeat (first | (with_reducible first | exact HB.out | apply below_alloc | apply pw_below_drewN | apply below_drew1) | exact HB.out))) : w.heap.size ≤ gb240)); have n3_ := Aside0.mk ((by rw [hg]; exact (below_size (by repeat (first | (with_reducible first | exact HB.out | apply below_alloc | apply pw_below_drewN | apply below_drew1) | exact HB.out))) : w.heap.size ≤ gb240)); clear HB; have HB := n0_; have BK240 := n1_; have GW240 := n2_; have GE240 := n3_; clear n0_ n1_ n2_ n3_; clear hb hbox hg) | ((with_reducible refine gate_dst (N := 4) rfl ?_); refine box_event ?hg (N := 4) ?hd (cs := #[.int .i64 0, .int .i64 0, .int .i64 0, .int .i64 0, .int .i64 0, .int .i64 0, .int .i64 0, .slice none 0 0, .int .i64 0, .int .i64 0, .int .i64 0, .int .u64 0, .int .u64 0, .int .u64 0, .bool false]) (t := 50) ?hr ?_; (case hd => rfl); (case hg => rfl); (case hr => first | (go_simp; done) | (go_simp; rfl)); intro gb241 hg w5 hbox hb; have n0_ := Aside0.mk (blk_below (g := gb240) (o := .cells #[.int .i64 a0_0, .int .i64 a0_1, .int .i64 a0_2, .int .i64 a0_3, .int .i64 a0_4, .int .i64 a0_5, .int .i64 a0_6] 23 (0, 0)) (by (with_reducible repeat (first | refine blk_drewN ?_ _ | refine blk_drew ?_ | refine blk_alloc ?_ _)); exact BK240.out) hb); have n1_ := Aside0.mk (below_step (by repeat (first | (with_reducible first | exact HB.out | apply below_alloc | apply pw_below_drewN | apply below_drew1 | refine below_set ?_ GE240.out) | exact HB.out)) hb); have n2_ := Aside0.mk (hbox); have n3_ := Aside0.mk ((by rw [hg]; exact (below_size (by repeat (first | (with_reducible first | exact HB.out | apply below_alloc | apply pw_below_drewN | apply below_drew1 | refine below_set ?_ GE240.out) | exact HB.out))) : w.heap.size ≤ gb241)); have n4_ := Aside0.mk ((by rw [hg]; exact (below_size (by repeat (first | (with_reducible first | exact HB.out | apply below_alloc | apply pw_below_drewN | apply below_drew1 | refine below_set ?_ GE240.out) | exact HB.out))) : w.heap.size ≤ gb241)); have n5_ := Aside0.mk ((by rw [hg]; exact Nat.ne_of_lt (blk_lt (g := gb240) (o := .cells #[.int .i64 a0_0, .int .i64 a0_1, .int .i64 a0_2, .int .i64 a0_3, .int .i64 a0_4, .int .i64 a0_5, .int .i64 a0_6] 23 (0, 0)) (by (with_reducible repeat (first | refine blk_drewN ?_ _ | refine blk_drew ?_ | refine blk_alloc ?_ _)); exact BK240.out)) : gb240 ≠ gb241)); have n6_ := Aside0.mk ((by rw [hg]; exact Nat.ne_of_gt (blk_lt (g := gb240) (o := .cells #[.int .i64 a0_0, .int .i64 a0_1, .int .i64 a0_2, .int .i64 a0_3, .int .i64 a0_4, .int .i64 a0_5, .int .i64 a0_6] 23 (0, 0)) (by (with_reducible repeat (first | refine blk_drewN ?_ _ | refine blk_drew ?_ | refine blk_alloc ?_ _)); exact BK240.out)) : gb241 ≠ gb240)); clear BK240; clear HB; have BK240 := n0_; have HB := n1_; have BK241 := n2_; have GW241 := n3_; have GE241 := n4_; have NB240_241 := n5_; have NB241_240 := n6_; clear n0_ n1_ n2_ n3_ n4_ n5_ n6_; clear hb hbox hg))
 have n0_ := Aside0.mk (blk_drew BK240.out)
 have n1_ := Aside0.mk (blk_drew BK241.out)
 have n2_ := Aside0.mk (below_drew1 HB.out)
 clear BK240
 clear BK241
 clear HB
 have BK240 := n0_
 have BK241 := n1_
 have HB := n2_
 clear n0_ n1_ n2_
 refine start_ (n := 5) (S := fun w' => w'.cell? ⟨gb240, 0, none⟩ = some (.int .i64 a0_0) ∧ w'.cell? ⟨gb240, 1, none⟩ = some (.int .i64 a0_1) ∧ w'.cell? ⟨gb240, 2, none⟩ = some (.int .i64 a0_2) ∧ w'.cell? ⟨gb240, 3, none⟩ = some (.int .i64 a0_3) ∧ w'.cell? ⟨gb240, 4, none⟩ = some (.int .i64 a0_4) ∧ w'.cell? ⟨gb240, 5, none⟩ = some (.int .i64 a0_5) ∧ w'.cell? ⟨gb240, 6, none⟩ = some (.int .i64 a0_6)) (ds := []) #[false, false, false, false, false] (by kernel_rfl) rfl rfl ⟨(blk_cell BK240.out 0).trans rfl, (blk_cell BK240.out 1).trans rfl, (blk_cell BK240.out 2).trans rfl, (blk_cell BK240.out 3).trans rfl, (blk_cell BK240.out 4).trans rfl, (blk_cell BK240.out 5).trans rfl, (blk_cell BK240.out 6).trans rfl⟩ (fun hHeld => ?_)
 generalize w5.drew = w6 at BK240 BK241 HB hHeld ⊢
 refine pure_ (i := 1) (N := some 6) (v := ?_) (a' := ?_) #[false, true, false, false, false] rfl rfl (by kernel_rfl) (fun _ _ _ h => h) (Or.inl ⟨by rfl, ?_⟩) ?_ ?_
 rotate_left
 ·intro w'
  go_simp
  with_reducible rfl
 rotate_left
 ·simp only [Act.put, List.setIfInBounds_toArray, List.set_cons_zero, List.set_cons_succ, i64_w, i32_w]
  rfl
 refine take_ (i := 0) (N := some 5) (v := ?_) (a' := ?_) #[true, true, false, false, false] rfl rfl (by kernel_rfl) (fun _ _ _ h => h) (Or.inl ⟨by rfl, ?_⟩) hHeld ?_ ?_
 rotate_left
 ·rintro w' ⟨s0, s1, s2, s3, s4, s5, s6⟩
  go_simp
  with_reducible rfl
 rotate_left
 ·simp only [Act.put, List.setIfInBounds_toArray, List.set_cons_zero, List.set_cons_succ, i64_w, i32_w]
  rfl
 refine one_ (i := 2) (N := some 7) #[true, true, true, false, false] rfl rfl (by kernel_rfl) (by decide) (fun K hK => ?_)
 refine goes_ Try.func75 (by kernel_rfl) rfl #[.slice A1 l1.length c1] (by rfl) rfl rfl (by (try simp only [List.map_toArray, List.map_cons, List.map_nil]); first | done | rfl | (simp only [List.length_drop, List.length_take]; rfl)) ?_
 with_reducible refine (stepstoneref03_Of.calls _ _ l1 t242 t245 t246 t247 t248 t249 t250 t251 _ ?side1 ?side2 A3.out).mono ?_
 (case side1 => repeat (first | exact (Kd.C_below HR1.out HB.out) | (with_reducible refine Kd.C_alloc ?_ _) | (with_reducible refine Kd.C_drewN ?_ _) | (with_reducible refine Kd.C_drew ?_)))
 (case side2 => exact HC1.out)
 rintro e w7 ⟨v243, rfl, ho0, hb⟩
 refine ⟨_, rfl, ?_⟩
 have n0_ := Aside0.mk (Kd.R_lower ho0 (below_size (by repeat (first | (with_reducible first | exact HB.out | apply below_alloc | apply pw_below_drewN | apply below_drew1 | refine below_set ?_ GE240.out | refine below_set ?_ GE241.out) | exact HB.out))))
 have n1_ := Aside0.mk (blk_below (g := gb240) (o := .cells #[.int .i64 a0_0, .int .i64 a0_1, .int .i64 a0_2, .int .i64 a0_3, .int .i64 a0_4, .int .i64 a0_5, .int .i64 a0_6] 23 (0, 0)) (by (with_reducible repeat (first | refine blk_drewN ?_ _ | refine blk_drew ?_ | refine blk_alloc ?_ _)); exact BK240.out) hb)
 have n2_ := Aside0.mk (blk_below (g := gb241) (o := .cells #[.int .i64 0, .int .i64 0, .int .i64 0, .int .i64 0, .int .i64 0, .int .i64 0, .int .i64 0, .slice none 0 0, .int .i64 0, .int .i64 0, .int .i64 0, .int .u64 0, .int .u64 0, .int .u64 0, .bool false] 50 (0, 0)) (by (with_reducible repeat (first | refine blk_drewN ?_ _ | refine blk_drew ?_ | refine blk_alloc ?_ _)); exact BK241.out) hb)
 have n3_ := Aside0.mk (below_step (by repeat (first | (with_reducible first | exact HB.out | apply below_alloc | apply pw_below_drewN | apply below_drew1 | refine below_set ?_ GE240.out | refine below_set ?_ GE241.out) | exact HB.out)) hb)
 clear BK240
 clear BK241
 clear HB
 have HO244 := n0_
 have BK240 := n1_
 have BK241 := n2_
 have HB := n3_
 clear n0_ n1_ n2_ n3_
 (try clear hb)
 (try clear hb2)
 (try clear hk)
 (try clear hi)
 (try clear ho0)
 obtain ⟨Ao8, co8, eo8⟩ := Kd.R_slice HO244.out
 (first | subst eo8 | (injection eo8 with f1_ f2_ f3_; have f4_ := f1_.symm; have f5_ := f3_.symm; clear f1_ f2_ f3_; subst f4_; subst f5_))
 refine hK.out _ _ ⟨(blk_cell BK240.out 0).trans rfl, (blk_cell BK240.out 1).trans rfl, (blk_cell BK240.out 2).trans rfl, (blk_cell BK240.out 3).trans rfl, (blk_cell BK240.out 4).trans rfl, (blk_cell BK240.out 5).trans rfl, (blk_cell BK240.out 6).trans rfl⟩ (fun hHeld => ?_)
 clear hK K
 refine norm_ (a' := ?_) ?_ ?_
 rotate_left
 ·show Act.put _ (some 7) _ = _
  simp only [Act.put, List.setIfInBounds_toArray, List.set_cons_zero, List.set_cons_succ, i64_w, i32_w]
  rfl
 refine pure_ (i := 3) (N := some 8) (v := ?_) (a' := ?_) #[true, true, true, true, false] rfl rfl (by kernel_rfl) (fun _ _ _ h => h) (Or.inl ⟨by rfl, ?_⟩) ?_ ?_
 rotate_left
 ·intro w'
  go_simp
  with_reducible rfl
 rotate_left
 ·simp only [Act.put, List.setIfInBounds_toArray, List.set_cons_zero, List.set_cons_succ, i64_w, i32_w]
  rfl
 refine one_ (i := 4) (N := none) #[true, true, true, true, true] rfl rfl (by kernel_rfl) (by decide) (fun K hK => ?_)
 have hs9 : w7.cell? ⟨gb241, 0, none⟩ = some (.int .i64 0) := (blk_cell BK241.out 0).trans rfl
 have hfs9 := blk_frozen BK241.out 0
 have hns9_0 := NB240_241.out
 have hms9_0 := NB241_240.out
 have hs10 : w7.cell? ⟨gb241, 1, none⟩ = some (.int .i64 0) := (blk_cell BK241.out 1).trans rfl
 have hfs10 := blk_frozen BK241.out 1
 have hns10_0 := NB240_241.out
 have hms10_0 := NB241_240.out
 have hs11 : w7.cell? ⟨gb241, 2, none⟩ = some (.int .i64 0) := (blk_cell BK241.out 2).trans rfl
 have hfs11 := blk_frozen BK241.out 2
 have hns11_0 := NB240_241.out
 have hms11_0 := NB241_240.out
 have hs12 : w7.cell? ⟨gb241, 3, none⟩ = some (.int .i64 0) := (blk_cell BK241.out 3).trans rfl
 have hfs12 := blk_frozen BK241.out 3
 have hns12_0 := NB240_241.out
 have hms12_0 := NB241_240.out
 have hs13 : w7.cell? ⟨gb241, 4, none⟩ = some (.int .i64 0) := (blk_cell BK241.out 4).trans rfl
 have hfs13 := blk_frozen BK241.out 4
 have hns13_0 := NB240_241.out
 have hms13_0 := NB241_240.out
 have hs14 : w7.cell? ⟨gb241, 5, none⟩ = some (.int .i64 0) := (blk_cell BK241.out 5).trans rfl
 have hfs14 := blk_frozen BK241.out 5
 have hns14_0 := NB240_241.out
 have hms14_0 := NB241_240.out
 have hs15 : w7.cell? ⟨gb241, 6, none⟩ = some (.int .i64 0) := (blk_cell BK241.out 6).trans rfl
 have hfs15 := blk_frozen BK241.out 6
 have hns15_0 := NB240_241.out
 have hms15_0 := NB241_240.out
 have hs16 : w7.cell? ⟨gb241, 7, none⟩ = some (.slice none 0 0) := (blk_cell BK241.out 7).trans rfl
 have hfs16 := blk_frozen BK241.out 7
 have hns16_0 := NB240_241.out
 have hms16_0 := NB241_240.out
 have hs17 : w7.cell? ⟨gb241, 8, none⟩ = some (.int .i64 0) := (blk_cell BK241.out 8).trans rfl
 have hfs17 := blk_frozen BK241.out 8
 have hns17_0 := NB240_241.out
 have hms17_0 := NB241_240.out
 have hs18 : w7.cell? ⟨gb241, 9, none⟩ = some (.int .i64 0) := (blk_cell BK241.out 9).trans rfl
 have hfs18 := blk_frozen BK241.out 9
 have hns18_0 := NB240_241.out
 have hms18_0 := NB241_240.out
 have hs19 : w7.cell? ⟨gb241, 10, none⟩ = some (.int .i64 0) := (blk_cell BK241.out 10).trans rfl
 have hfs19 := blk_frozen BK241.out 10
 have hns19_0 := NB240_241.out
 have hms19_0 := NB241_240.out
 have hs20 : w7.cell? ⟨gb241, 11, none⟩ = some (.int .u64 0) := (blk_cell BK241.out 11).trans rfl
 have hfs20 := blk_frozen BK241.out 11
 have hns20_0 := NB240_241.out
 have hms20_0 := NB241_240.out
 have hs21 : w7.cell? ⟨gb241, 12, none⟩ = some (.int .u64 0) := (blk_cell BK241.out 12).trans rfl
 have hfs21 := blk_frozen BK241.out 12
 have hns21_0 := NB240_241.out
 have hms21_0 := NB241_240.out
 have hs22 : w7.cell? ⟨gb241, 13, none⟩ = some (.int .u64 0) := (blk_cell BK241.out 13).trans rfl
 have hfs22 := blk_frozen BK241.out 13
 have hns22_0 := NB240_241.out
 have hms22_0 := NB241_240.out
 have hs23 : w7.cell? ⟨gb241, 14, none⟩ = some (.bool false) := (blk_cell BK241.out 14).trans rfl
 have hfs23 := blk_frozen BK241.out 14
 have hns23_0 := NB240_241.out
 have hms23_0 := NB241_240.out
 refine skip_ (w1 := ?_) (by rfl) rfl ?_ ?_
 rotate_left
 ·go_simp
  rfl
 refine hK.out _ _ ⟨((cell_far (p := ⟨gb241, _, none⟩) NB240_241.out _).trans (((cell_far (p := ⟨gb241, _, none⟩) NB240_241.out _).trans (((cell_far (p := ⟨gb241, _, none⟩) NB240_241.out _).trans (((cell_far (p := ⟨gb241, _, none⟩) NB240_241.out _).trans (((cell_far (p := ⟨gb241, _, none⟩) NB240_241.out _).trans (((cell_far (p := ⟨gb241, _, none⟩) NB240_241.out _).trans (((cell_far (p := ⟨gb241, _, none⟩) NB240_241.out _).trans (((cell_far (p := ⟨gb241, _, none⟩) NB240_241.out _).trans (((cell_far (p := ⟨gb241, _, none⟩) NB240_241.out _).trans (((cell_far (p := ⟨gb241, _, none⟩) NB240_241.out _).trans (((cell_far (p := ⟨gb241, _, none⟩) NB240_241.out _).trans (((cell_far (p := ⟨gb241, _, none⟩) NB240_241.out _).trans (((cell_far (p := ⟨gb241, _, none⟩) NB240_241.out _).trans (((cell_far (p := ⟨gb241, _, none⟩) NB240_241.out _).trans (((cell_far (p := ⟨gb241, _, none⟩) NB240_241.out _).trans (hHeld.1)))))))))))))))))))))))))))))), ((cell_far (p := ⟨gb241, _, none⟩) NB240_241.out _).trans (((cell_far (p := ⟨gb241, _, none⟩) NB240_241.out _).trans (((cell_far (p := ⟨gb241, _, none⟩) NB240_241.out _).trans (((cell_far (p := ⟨gb241, _, none⟩) NB240_241.out _).trans (((cell_far (p := ⟨gb241, _, none⟩) NB240_241.out _).trans (((cell_far (p := ⟨gb241, _, none⟩) NB240_241.out _).trans (((cell_far (p := ⟨gb241, _, none⟩) NB240_241.out _).trans (((cell_far (p := ⟨gb241, _, none⟩) NB240_241.out _).trans (((cell_far (p := ⟨gb241, _, none⟩) NB240_241.out _).trans (((cell_far (p := ⟨gb241, _, none⟩) NB240_241.out _).trans (((cell_far (p := ⟨gb241, _, none⟩) NB240_241.out _).trans (((cell_far (p := ⟨gb241, _, none⟩) NB240_241.out _).trans (((cell_far (p := ⟨gb241, _, none⟩) NB240_241.out _).trans (((cell_far (p := ⟨gb241, _, none⟩) NB240_241.out _).trans (((cell_far (p := ⟨gb241, _, none⟩) NB240_241.out _).trans (hHeld.2.1)))))))))))))))))))))))))))))), ((cell_far (p := ⟨gb241, _, none⟩) NB240_241.out _).trans (((cell_far (p := ⟨gb241, _, none⟩) NB240_241.out _).trans (((cell_far (p := ⟨gb241, _, none⟩) NB240_241.out _).trans (((cell_far (p := ⟨gb241, _, none⟩) NB240_241.out _).trans (((cell_far (p := ⟨gb241, _, none⟩) NB240_241.out _).trans (((cell_far (p := ⟨gb241, _, none⟩) NB240_241.out _).trans (((cell_far (p := ⟨gb241, _, none⟩) NB240_241.out _).trans (((cell_far (p := ⟨gb241, _, none⟩) NB240_241.out _).trans (((cell_far (p := ⟨gb241, _, none⟩) NB240_241.out _).trans (((cell_far (p := ⟨gb241, _, none⟩) NB240_241.out _).trans (((cell_far (p := ⟨gb241, _, none⟩) NB240_241.out _).trans (((cell_far (p := ⟨gb241, _, none⟩) NB240_241.out _).trans (((cell_far (p := ⟨gb241, _, none⟩) NB240_241.out _).trans (((cell_far (p := ⟨gb241, _, none⟩) NB240_241.out _).trans (((cell_far (p := ⟨gb241, _, none⟩) NB240_241.out _).trans (hHeld.2.2.1)))))))))))))))))))))))))))))), ((cell_far (p := ⟨gb241, _, none⟩) NB240_241.out _).trans (((cell_far (p := ⟨gb241, _, none⟩) NB240_241.out _).trans (((cell_far (p := ⟨gb241, _, none⟩) NB240_241.out _).trans (((cell_far (p := ⟨gb241, _, none⟩) NB240_241.out _).trans (((cell_far (p := ⟨gb241, _, none⟩) NB240_241.out _).trans (((cell_far (p := ⟨gb241, _, none⟩) NB240_241.out _).trans (((cell_far (p := ⟨gb241, _, none⟩) NB240_241.out _).trans (((cell_far (p := ⟨gb241, _, none⟩) NB240_241.out _).trans (((cell_far (p := ⟨gb241, _, none⟩) NB240_241.out _).trans (((cell_far (p := ⟨gb241, _, none⟩) NB240_241.out _).trans (((cell_far (p := ⟨gb241, _, none⟩) NB240_241.out _).trans (((cell_far (p := ⟨gb241, _, none⟩) NB240_241.out _).trans (((cell_far (p := ⟨gb241, _, none⟩) NB240_241.out _).trans (((cell_far (p := ⟨gb241, _, none⟩) NB240_241.out _).trans (((cell_far (p := ⟨gb241, _, none⟩) NB240_241.out _).trans (hHeld.2.2.2.1)))))))))))))))))))))))))))))), ((cell_far (p := ⟨gb241, _, none⟩) NB240_241.out _).trans (((cell_far (p := ⟨gb241, _, none⟩) NB240_241.out _).trans (((cell_far (p := ⟨gb241, _, none⟩) NB240_241.out _).trans (((cell_far (p := ⟨gb241, _, none⟩) NB240_241.out _).trans (((cell_far (p := ⟨gb241, _, none⟩) NB240_241.out _).trans (((cell_far (p := ⟨gb241, _, none⟩) NB240_241.out _).trans (((cell_far (p := ⟨gb241, _, none⟩) NB240_241.out _).trans (((cell_far (p := ⟨gb241, _, none⟩) NB240_241.out _).trans (((cell_far (p := ⟨gb241, _, none⟩) NB240_241.out _).trans (((cell_far (p := ⟨gb241, _, none⟩) NB240_241.out _).trans (((cell_far (p := ⟨gb241, _, none⟩) NB240_241.out _).trans (((cell_far (p := ⟨gb241, _, none⟩) NB240_241.out _).trans (((cell_far (p := ⟨gb241, _, none⟩) NB240_241.out _).trans (((cell_far (p := ⟨gb241, _, none⟩) NB240_241.out _).trans (((cell_far (p := ⟨gb241, _, none⟩) NB240_241.out _).trans (hHeld.2.2.2.2.1)))))))))))))))))))))))))))))), ((cell_far (p := ⟨gb241, _, none⟩) NB240_241.out _).trans (((cell_far (p := ⟨gb241, _, none⟩) NB240_241.out _).trans (((cell_far (p := ⟨gb241, _, none⟩) NB240_241.out _).trans (((cell_far (p := ⟨gb241, _, none⟩) NB240_241.out _).trans (((cell_far (p := ⟨gb241, _, none⟩) NB240_241.out _).trans (((cell_far (p := ⟨gb241, _, none⟩) NB240_241.out _).trans (((cell_far (p := ⟨gb241, _, none⟩) NB240_241.out _).trans (((cell_far (p := ⟨gb241, _, none⟩) NB240_241.out _).trans (((cell_far (p := ⟨gb241, _, none⟩) NB240_241.out _).trans (((cell_far (p := ⟨gb241, _, none⟩) NB240_241.out _).trans (((cell_far (p := ⟨gb241, _, none⟩) NB240_241.out _).trans (((cell_far (p := ⟨gb241, _, none⟩) NB240_241.out _).trans (((cell_far (p := ⟨gb241, _, none⟩) NB240_241.out _).trans (((cell_far (p := ⟨gb241, _, none⟩) NB240_241.out _).trans (((cell_far (p := ⟨gb241, _, none⟩) NB240_241.out _).trans (hHeld.2.2.2.2.2.1)))))))))))))))))))))))))))))), ((cell_far (p := ⟨gb241, _, none⟩) NB240_241.out _).trans (((cell_far (p := ⟨gb241, _, none⟩) NB240_241.out _).trans (((cell_far (p := ⟨gb241, _, none⟩) NB240_241.out _).trans (((cell_far (p := ⟨gb241, _, none⟩) NB240_241.out _).trans (((cell_far (p := ⟨gb241, _, none⟩) NB240_241.out _).trans (((cell_far (p := ⟨gb241, _, none⟩) NB240_241.out _).trans (((cell_far (p := ⟨gb241, _, none⟩) NB240_241.out _).trans (((cell_far (p := ⟨gb241, _, none⟩) NB240_241.out _).trans (((cell_far (p := ⟨gb241, _, none⟩) NB240_241.out _).trans (((cell_far (p := ⟨gb241, _, none⟩) NB240_241.out _).trans (((cell_far (p := ⟨gb241, _, none⟩) NB240_241.out _).trans (((cell_far (p := ⟨gb241, _, none⟩) NB240_241.out _).trans (((cell_far (p := ⟨gb241, _, none⟩) NB240_241.out _).trans (((cell_far (p := ⟨gb241, _, none⟩) NB240_241.out _).trans (((cell_far (p := ⟨gb241, _, none⟩) NB240_241.out _).trans (hHeld.2.2.2.2.2.2))))))))))))))))))))))))))))))⟩ (fun hHeld => ?_)
 clear hK K
 refine done_ (by kernel_rfl) ?_
 try go_wp2
 refine bodyPost_ret (results_cell_row rfl _ _ gb241 50 #[.int .i64 a0_0, .int .i64 a0_1, .int .i64 a0_2, .int .i64 a0_3, .int .i64 a0_4, .int .i64 a0_5, .int .i64 a0_6, .slice Ao8 t242.length co8, .int .i64 t245, .int .i64 t246, .int .i64 t247, .int .u64 t248, .int .u64 t249, .int .u64 t250, .bool t251] (0, 0) _ rfl (by (with_reducible repeat (first | refine blk_drewN ?_ _ | refine blk_drew ?_ | refine blk_alloc ?_ _)); refine blk_put (cs := #[.int .i64 a0_0, .int .i64 a0_1, .int .i64 a0_2, .int .i64 a0_3, .int .i64 a0_4, .int .i64 a0_5, .int .i64 a0_6, .slice Ao8 t242.length co8, .int .i64 t245, .int .i64 t246, .int .i64 t247, .int .u64 t248, .int .u64 t249, .int .u64 t250, .bool false]) ?_ 14 _ rfl; (with_reducible repeat (first | refine blk_drewN ?_ _ | refine blk_drew ?_ | refine blk_alloc ?_ _)); refine blk_put (cs := #[.int .i64 a0_0, .int .i64 a0_1, .int .i64 a0_2, .int .i64 a0_3, .int .i64 a0_4, .int .i64 a0_5, .int .i64 a0_6, .slice Ao8 t242.length co8, .int .i64 t245, .int .i64 t246, .int .i64 t247, .int .u64 t248, .int .u64 t249, .int .u64 0, .bool false]) ?_ 13 _ rfl; (with_reducible repeat (first | refine blk_drewN ?_ _ | refine blk_drew ?_ | refine blk_alloc ?_ _)); refine blk_put (cs := #[.int .i64 a0_0, .int .i64 a0_1, .int .i64 a0_2, .int .i64 a0_3, .int .i64 a0_4, .int .i64 a0_5, .int .i64 a0_6, .slice Ao8 t242.length co8, .int .i64 t245, .int .i64 t246, .int .i64 t247, .int .u64 t248, .int .u64 0, .int .u64 0, .bool false]) ?_ 12 _ rfl; (with_reducible repeat (first | refine blk_drewN ?_ _ | refine blk_drew ?_ | refine blk_alloc ?_ _)); refine blk_put (cs := #[.int .i64 a0_0, .int .i64 a0_1, .int .i64 a0_2, .int .i64 a0_3, .int .i64 a0_4, .int .i64 a0_5, .int .i64 a0_6, .slice Ao8 t242.length co8, .int .i64 t245, .int .i64 t246, .int .i64 t247, .int .u64 0, .int .u64 0, .int .u64 0, .bool false]) ?_ 11 _ rfl; (with_reducible repeat (first | refine blk_drewN ?_ _ | refine blk_drew ?_ | refine blk_alloc ?_ _)); refine blk_put (cs := #[.int .i64 a0_0, .int .i64 a0_1, .int .i64 a0_2, .int .i64 a0_3, .int .i64 a0_4, .int .i64 a0_5, .int .i64 a0_6, .slice Ao8 t242.length co8, .int .i64 t245, .int .i64 t246, .int .i64 0, .int .u64 0, .int .u64 0, .int .u64 0, .bool false]) ?_ 10 _ rfl; (with_reducible repeat (first | refine blk_drewN ?_ _ | refine blk_drew ?_ | refine blk_alloc ?_ _)); refine blk_put (cs := #[.int .i64 a0_0, .int .i64 a0_1, .int .i64 a0_2, .int .i64 a0_3, .int .i64 a0_4, .int .i64 a0_5, .int .i64 a0_6, .slice Ao8 t242.length co8, .int .i64 t245, .int .i64 0, .int .i64 0, .int .u64 0, .int .u64 0, .int .u64 0, .bool false]) ?_ 9 _ rfl; (with_reducible repeat (first | refine blk_drewN ?_ _ | refine blk_drew ?_ | refine blk_alloc ?_ _)); refine blk_put (cs := #[.int .i64 a0_0, .int .i64 a0_1, .int .i64 a0_2, .int .i64 a0_3, .int .i64 a0_4, .int .i64 a0_5, .int .i64 a0_6, .slice Ao8 t242.length co8, .int .i64 0, .int .i64 0, .int .i64 0, .int .u64 0, .int .u64 0, .int .u64 0, .bool false]) ?_ 8 _ rfl; (with_reducible repeat (first | refine blk_drewN ?_ _ | refine blk_drew ?_ | refine blk_alloc ?_ _)); refine blk_put (cs := #[.int .i64 a0_0, .int .i64 a0_1, .int .i64 a0_2, .int .i64 a0_3, .int .i64 a0_4, .int .i64 a0_5, .int .i64 a0_6, .slice none 0 0, .int .i64 0, .int .i64 0, .int .i64 0, .int .u64 0, .int .u64 0, .int .u64 0, .bool false]) ?_ 7 _ rfl; (with_reducible repeat (first | refine blk_drewN ?_ _ | refine blk_drew ?_ | refine blk_alloc ?_ _)); refine blk_put (cs := #[.int .i64 a0_0, .int .i64 a0_1, .int .i64 a0_2, .int .i64 a0_3, .int .i64 a0_4, .int .i64 a0_5, .int .i64 0, .slice none 0 0, .int .i64 0, .int .i64 0, .int .i64 0, .int .u64 0, .int .u64 0, .int .u64 0, .bool false]) ?_ 6 _ rfl; (with_reducible repeat (first | refine blk_drewN ?_ _ | refine blk_drew ?_ | refine blk_alloc ?_ _)); refine blk_put (cs := #[.int .i64 a0_0, .int .i64 a0_1, .int .i64 a0_2, .int .i64 a0_3, .int .i64 a0_4, .int .i64 0, .int .i64 0, .slice none 0 0, .int .i64 0, .int .i64 0, .int .i64 0, .int .u64 0, .int .u64 0, .int .u64 0, .bool false]) ?_ 5 _ rfl; (with_reducible repeat (first | refine blk_drewN ?_ _ | refine blk_drew ?_ | refine blk_alloc ?_ _)); refine blk_put (cs := #[.int .i64 a0_0, .int .i64 a0_1, .int .i64 a0_2, .int .i64 a0_3, .int .i64 0, .int .i64 0, .int .i64 0, .slice none 0 0, .int .i64 0, .int .i64 0, .int .i64 0, .int .u64 0, .int .u64 0, .int .u64 0, .bool false]) ?_ 4 _ rfl; (with_reducible repeat (first | refine blk_drewN ?_ _ | refine blk_drew ?_ | refine blk_alloc ?_ _)); refine blk_put (cs := #[.int .i64 a0_0, .int .i64 a0_1, .int .i64 a0_2, .int .i64 0, .int .i64 0, .int .i64 0, .int .i64 0, .slice none 0 0, .int .i64 0, .int .i64 0, .int .i64 0, .int .u64 0, .int .u64 0, .int .u64 0, .bool false]) ?_ 3 _ rfl; (with_reducible repeat (first | refine blk_drewN ?_ _ | refine blk_drew ?_ | refine blk_alloc ?_ _)); refine blk_put (cs := #[.int .i64 a0_0, .int .i64 a0_1, .int .i64 0, .int .i64 0, .int .i64 0, .int .i64 0, .int .i64 0, .slice none 0 0, .int .i64 0, .int .i64 0, .int .i64 0, .int .u64 0, .int .u64 0, .int .u64 0, .bool false]) ?_ 2 _ rfl; (with_reducible repeat (first | refine blk_drewN ?_ _ | refine blk_drew ?_ | refine blk_alloc ?_ _)); refine blk_put (cs := #[.int .i64 a0_0, .int .i64 0, .int .i64 0, .int .i64 0, .int .i64 0, .int .i64 0, .int .i64 0, .slice none 0 0, .int .i64 0, .int .i64 0, .int .i64 0, .int .u64 0, .int .u64 0, .int .u64 0, .bool false]) ?_ 1 _ rfl; (with_reducible repeat (first | refine blk_drewN ?_ _ | refine blk_drew ?_ | refine blk_alloc ?_ _)); refine blk_put (cs := #[.int .i64 0, .int .i64 0, .int .i64 0, .int .i64 0, .int .i64 0, .int .i64 0, .int .i64 0, .slice none 0 0, .int .i64 0, .int .i64 0, .int .i64 0, .int .u64 0, .int .u64 0, .int .u64 0, .bool false]) ?_ 0 _ rfl; (with_reducible repeat (first | refine blk_drewN ?_ _ | refine blk_drew ?_ | refine blk_alloc ?_ _)); exact BK241.out) Try.underlying50 rfl (by kernel_rfl)) rfl ?_
 exact ⟨_, by first | rfl | (simp [errW_none, errW_some] <;> rfl) | (simp [*, errW_none, errW_some] <;> rfl), by (with_reducible repeat (first | apply Kd.R_alloc | apply Kd.R_drewN | apply Kd.R_drew)); exact Kd.R_mono (Kd.R_far (p := ⟨gb241, 14, none⟩) (Kd.R_far (p := ⟨gb241, 13, none⟩) (Kd.R_far (p := ⟨gb241, 12, none⟩) (Kd.R_far (p := ⟨gb241, 11, none⟩) (Kd.R_far (p := ⟨gb241, 10, none⟩) (Kd.R_far (p := ⟨gb241, 9, none⟩) (Kd.R_far (p := ⟨gb241, 8, none⟩) (Kd.R_far (p := ⟨gb241, 7, none⟩) (Kd.R_far (p := ⟨gb241, 6, none⟩) (Kd.R_far (p := ⟨gb241, 5, none⟩) (Kd.R_far (p := ⟨gb241, 4, none⟩) (Kd.R_far (p := ⟨gb241, 3, none⟩) (Kd.R_far (p := ⟨gb241, 2, none⟩) (Kd.R_far (p := ⟨gb241, 1, none⟩) (Kd.R_far (p := ⟨gb241, 0, none⟩) (Kd.R_types HO244.out BK241.out (by decide)) (fun _ hk => hk.2) (.int .i64 a0_0)) (fun _ hk => hk.2) (.int .i64 a0_1)) (fun _ hk => hk.2) (.int .i64 a0_2)) (fun _ hk => hk.2) (.int .i64 a0_3)) (fun _ hk => hk.2) (.int .i64 a0_4)) (fun _ hk => hk.2) (.int .i64 a0_5)) (fun _ hk => hk.2) (.int .i64 a0_6)) (fun _ hk => hk.2) (.slice Ao8 t242.length co8)) (fun _ hk => hk.2) (.int .i64 t245)) (fun _ hk => hk.2) (.int .i64 t246)) (fun _ hk => hk.2) (.int .i64 t247)) (fun _ hk => hk.2) (.int .u64 t248)) (fun _ hk => hk.2) (.int .u64 t249)) (fun _ hk => hk.2) (.int .u64 t250)) (fun _ hk => hk.2) (.bool t251)) (fun _ hk => trivial), by repeat (first | (with_reducible first | exact HB.out | apply below_alloc | apply pw_below_drewN | apply below_drew1 | refine below_set ?_ GE240.out | refine below_set ?_ GE241.out) | exact HB.out)⟩
-- NOT PRINTED: function 27 (stepstonelaw05_Of)
-- NOT PRINTED: function 28 (help_New)
-- NOT PRINTED: function 57 (handle_bits)
-- NOT PRINTED: function 29 (handle_Index)
-- NOT PRINTED: function 31 (help_Help_Step)
-- NOT PRINTED: function 35 (help_Help_Done)
-- NOT PRINTED: function 32 (stepstonelaw12_ends)
end Go.Proofs.Ythbkncklliiooaa.Q
