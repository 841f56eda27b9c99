-- PRINTED by print.py (a twelfth state) out of the translation. Not trusted: Lean checks it.
import Derived.Test.YthbkncklliiooaaQx0
import Derived.Test.YthbkncklliiooaaQx11
import Derived.Test.YthbkncklliiooaaQx19
namespace Go.Proofs.Ythbkncklliiooaa.Q
open Go.RowKit Go.Proofs.YthbkncklliiooaaW.PrintWords Go.Proofs.YthbkncklliiooaaW.PrintLast Go.Proofs.YthbkncklliiooaaW.PrintMore
attribute [local go_sem] max2_int min2_int max_two min_two max_three min_three max_four min_four   -- for this text's walks alone
set_option linter.unusedVariables false
set_option linter.unusedSimpArgs false

-- NOT PRINTED: function 10 (stepstonelaw12_HelpDown)

-- NOT PRINTED: function 11 (stepstonelaw12_HelpAgain)

-- NOT PRINTED: function 66 (bank_Bank_Store)

-- NOT PRINTED: function 42 (mem_Mem_Store)

-- NOT PRINTED: function 12 (stepstonelaw12_HelpLost)

-- NOT PRINTED: function 92 (stepstoneref03_Do)

-- NOT PRINTED: function 84 (stepstoneref03_Store)

-- NOT PRINTED: function 67 (stepstonelaw09_PokedRef)

-- NOT PRINTED: function 44 (stepstonelaw09_Poked)

-- NOT PRINTED: function 85 (stepstoneref03_Load)

/-! ### stepstoneref01_Index: function 93 -/
def stepstoneref01_Index.f (a0 : Int) : Option (Int) := some (wrap64 (Int.tmod a0 4294967296))
set_option maxHeartbeats 8000000 in
set_option maxRecDepth 100000 in
theorem stepstoneref01_Index.calls (a0 : Int) (r : Int) (w : World) (h : stepstoneref01_Index.f a0 = some r) :
    Calls Try.prog 93 #[.int .u64 a0] w fun e w' => e = .returned (.int .i64 r) ∧ Drawn0 w w' := by
  have H : (some (wrap64 (Int.tmod a0 4294967296))) = some r := h
  clear h
  obtain rfl := Option.some.inj H
  go_enter Try.func93, Try.ntmps93
  go_wp2
  go_ret
  exact ⟨by first | rfl | (simp; done) | (simp [*]; done), by repeat (first | exact Drawn0.refl _ | apply Drawn0.step)⟩

/-! ### stepstoneref05_Cell: function 86 -/
def stepstoneref05_Cell.f (a0_0 : Int) (a0_1 : Int) (a0_2 : Int) (a0_3 : Int) (a0_4 : Int) (a0_5 : Int) (a0_6 : Int) (l0_7 : List Int) (a0_8 : Int) (a0_9 : Int) (a0_10 : Int) (a0_11 : Int) (a0_12 : Int) (a0_13 : Int) (a0_14 : Bool) (a1 : Int) (a2 : Int) : Option (Int) := (stepstoneref01_Index.f a1).bind fun t403 => ((stepstoneref04_Cell.f a0_0 a0_1 a0_2 a0_3 a0_4 a0_5 a0_6 t403 a2).bind fun t404 => (some t404))
set_option maxHeartbeats 8000000 in
set_option maxRecDepth 100000 in
theorem stepstoneref05_Cell.calls (a0_0 : Int) (a0_1 : Int) (a0_2 : Int) (a0_3 : Int) (a0_4 : Int) (a0_5 : Int) (a0_6 : Int) (A0_7 : Option Addr) (c0_7 : Nat) (l0_7 : List Int) (a0_8 : Int) (a0_9 : Int) (a0_10 : Int) (a0_11 : Int) (a0_12 : Int) (a0_13 : Int) (a0_14 : Bool) (a1 : Int) (a2 : Int) (r : Int) (w : World) (hr0_7 : Kd.C (Kd.int .u64) w A0_7 l0_7.length l0_7) (hc0_7 : l0_7.length ≤ c0_7) (h : stepstoneref05_Cell.f a0_0 a0_1 a0_2 a0_3 a0_4 a0_5 a0_6 l0_7 a0_8 a0_9 a0_10 a0_11 a0_12 a0_13 a0_14 a1 a2 = some r) :
    Calls Try.prog 86 #[.agg #[.int .i64 a0_0, .int .i64 a0_1, .int .i64 a0_2, .int .i64 a0_3, .int .i64 a0_4, .int .i64 a0_5, .int .i64 a0_6, .slice A0_7 l0_7.length c0_7, .int .i64 a0_8, .int .i64 a0_9, .int .i64 a0_10, .int .u64 a0_11, .int .u64 a0_12, .int .u64 a0_13, .bool a0_14], .int .u64 a1, .int .i64 a2] w fun e w' => e = .returned (.int .i64 r) ∧ Below w.heap.size w w' := by
  have hu50 := Try.underlying50
  have hu23 := Try.underlying23
  have HR0_7 := Aside0.mk hr0_7
  have HC0_7 := Aside0.mk hc0_7
  clear hr0_7 hc0_7
  have HB := Aside0.mk (Below.refl w.heap.size w)
  have H : ((stepstoneref01_Index.f a1).bind fun t403 => ((stepstoneref04_Cell.f a0_0 a0_1 a0_2 a0_3 a0_4 a0_5 a0_6 t403 a2).bind fun t404 => (some t404))) = some r := h
  clear h
  replace H := Option.bind_eq_some_iff.mp H
  obtain ⟨t403, A40, H⟩ := H
  replace H : ((stepstoneref04_Cell.f a0_0 a0_1 a0_2 a0_3 a0_4 a0_5 a0_6 t403 a2).bind fun t404 => (some t404)) = some r := H
  have A4 := Aside0.mk A40
  clear A40
  replace H := Option.bind_eq_some_iff.mp H
  obtain ⟨t404, A50, H⟩ := H
  replace H : (some t404) = some r := H
  have A5 := Aside0.mk A50
  clear A50
  obtain rfl := Option.some.inj H
  go_enter Try.func86, Try.ntmps86
  try go_wp2_with (first | ((with_reducible refine gate_dst (N := 3) rfl ?_); refine box_event ?hg (N := 3) ?hd (cs := #[.int .i64 a0_0, .int .i64 a0_1, .int .i64 a0_2, .int .i64 a0_3, .int .i64 a0_4, .int .i64 a0_5, .int .i64 a0_6, .slice A0_7 l0_7.length c0_7, .int .i64 a0_8, .int .i64 a0_9, .int .i64 a0_10, .int .u64 a0_11, .int .u64 a0_12, .int .u64 a0_13, .bool a0_14]) (t := 50) ?hr ?_; (case hd => rfl); (case hg => rfl); (case hr => first | (go_simp; done) | (go_simp; rfl)); intro gb402 hg w6 hbox hb; have n0_ := Aside0.mk (below_step (by repeat (first | (with_reducible first | exact HB.out | apply below_alloc | apply pw_below_drewN | apply below_drew1) | exact HB.out)) hb); have n1_ := Aside0.mk (hbox); have n2_ := Aside0.mk ((by rw [hg]; exact (below_size (by repeat (first | (with_reducible first | exact HB.out | apply below_alloc | apply pw_below_drewN | apply below_drew1) | exact HB.out))) : w.heap.size ≤ gb402)); have n3_ := Aside0.mk ((by rw [hg]; exact (below_size (by repeat (first | (with_reducible first | exact HB.out | apply below_alloc | apply pw_below_drewN | apply below_drew1) | exact HB.out))) : w.heap.size ≤ gb402)); clear HB; have HB := n0_; have BK402 := n1_; have GW402 := n2_; have GE402 := n3_; clear n0_ n1_ n2_ n3_; clear hb hbox hg))
  have n0_ := Aside0.mk (blk_drew BK402.out)
  have n1_ := Aside0.mk (below_drew1 HB.out)
  clear BK402
  clear HB
  have BK402 := n0_
  have HB := n1_
  clear n0_ n1_
  refine start_ (n := 7) (S := fun w' => w'.cell? ⟨gb402, 0, none⟩ = some (.int .i64 a0_0) ∧ w'.cell? ⟨gb402, 1, none⟩ = some (.int .i64 a0_1) ∧ w'.cell? ⟨gb402, 2, none⟩ = some (.int .i64 a0_2) ∧ w'.cell? ⟨gb402, 3, none⟩ = some (.int .i64 a0_3) ∧ w'.cell? ⟨gb402, 4, none⟩ = some (.int .i64 a0_4) ∧ w'.cell? ⟨gb402, 5, none⟩ = some (.int .i64 a0_5) ∧ w'.cell? ⟨gb402, 6, none⟩ = some (.int .i64 a0_6) ∧ w'.cell? ⟨gb402, 7, none⟩ = some (.slice A0_7 l0_7.length c0_7) ∧ w'.cell? ⟨gb402, 8, none⟩ = some (.int .i64 a0_8) ∧ w'.cell? ⟨gb402, 9, none⟩ = some (.int .i64 a0_9) ∧ w'.cell? ⟨gb402, 10, none⟩ = some (.int .i64 a0_10) ∧ w'.cell? ⟨gb402, 11, none⟩ = some (.int .u64 a0_11) ∧ w'.cell? ⟨gb402, 12, none⟩ = some (.int .u64 a0_12) ∧ w'.cell? ⟨gb402, 13, none⟩ = some (.int .u64 a0_13) ∧ w'.cell? ⟨gb402, 14, none⟩ = some (.bool a0_14)) (ds := []) #[false, false, false, false, false, false, false] (by kernel_rfl) rfl rfl ⟨(blk_cell BK402.out 0).trans rfl, (blk_cell BK402.out 1).trans rfl, (blk_cell BK402.out 2).trans rfl, (blk_cell BK402.out 3).trans rfl, (blk_cell BK402.out 4).trans rfl, (blk_cell BK402.out 5).trans rfl, (blk_cell BK402.out 6).trans rfl, (blk_cell BK402.out 7).trans rfl, (blk_cell BK402.out 8).trans rfl, (blk_cell BK402.out 9).trans rfl, (blk_cell BK402.out 10).trans rfl, (blk_cell BK402.out 11).trans rfl, (blk_cell BK402.out 12).trans rfl, (blk_cell BK402.out 13).trans rfl, (blk_cell BK402.out 14).trans rfl⟩ (fun hHeld => ?_)
  generalize w6.drew = w7 at BK402 HB hHeld ⊢
  refine pure_ (i := 0) (N := some 7) (v := ?_) (a' := ?_) #[true, false, false, false, false, false, false] rfl rfl (by kernel_rfl) (fun _ _ _ h => h) (Or.inl ⟨by rfl, ?_⟩) ?_ ?_
  rotate_left
  · intro w'
    go_simp
    with_reducible rfl
  rotate_left
  · simp only [Act.put, List.setIfInBounds_toArray, List.set_cons_zero, List.set_cons_succ, i64_w, i32_w]
    rfl
  refine pure_ (i := 2) (N := some 9) (v := ?_) (a' := ?_) #[true, false, true, false, false, false, false] rfl rfl (by kernel_rfl) (fun _ _ _ h => h) (Or.inl ⟨by rfl, ?_⟩) ?_ ?_
  rotate_left
  · intro w'
    go_simp
    with_reducible rfl
  rotate_left
  · simp only [Act.put, List.setIfInBounds_toArray, List.set_cons_zero, List.set_cons_succ, i64_w, i32_w]
    rfl
  refine pure_ (i := 4) (N := some 11) (v := ?_) (a' := ?_) #[true, false, true, false, true, false, false] rfl rfl (by kernel_rfl) (fun _ _ _ h => h) (Or.inl ⟨by rfl, ?_⟩) ?_ ?_
  rotate_left
  · intro w'
    go_simp
    with_reducible rfl
  rotate_left
  · simp only [Act.put, List.setIfInBounds_toArray, List.set_cons_zero, List.set_cons_succ, i64_w, i32_w]
    rfl
  refine take_ (i := 1) (N := some 8) (v := ?_) (a' := ?_) #[true, true, true, false, true, false, false] rfl rfl (by kernel_rfl) (fun _ _ _ h => h) (Or.inl ⟨by rfl, ?_⟩) hHeld ?_ ?_
  rotate_left
  · rintro w' ⟨s0, s1, s2, s3, s4, s5, s6, s7, s8, s9, s10, s11, s12, s13, s14⟩
    go_simp
    with_reducible rfl
  rotate_left
  · simp only [Act.put, List.setIfInBounds_toArray, List.set_cons_zero, List.set_cons_succ, i64_w, i32_w]
    rfl
  refine one_ (i := 3) (N := some 10) #[true, true, true, true, true, false, false] rfl rfl (by kernel_rfl) (by decide) (fun K hK => ?_)
  refine goes_ Try.func93 (by kernel_rfl) rfl #[.int .u64 a1] (by rfl) rfl rfl (by (try simp only [List.map_toArray, List.map_cons, List.map_nil]); first | done | rfl | (simp only [List.length_drop, List.length_take]; rfl)) ?_
  with_reducible refine (stepstoneref01_Index.calls a1 t403 _ A4.out).mono ?_
  rintro e w' ⟨rfl, ⟨nd, rfl⟩⟩
  refine ⟨_, rfl, ?_⟩
  refine hK.out _ _ ⟨(blk_cell BK402.out 0).trans rfl, (blk_cell BK402.out 1).trans rfl, (blk_cell BK402.out 2).trans rfl, (blk_cell BK402.out 3).trans rfl, (blk_cell BK402.out 4).trans rfl, (blk_cell BK402.out 5).trans rfl, (blk_cell BK402.out 6).trans rfl, (blk_cell BK402.out 7).trans rfl, (blk_cell BK402.out 8).trans rfl, (blk_cell BK402.out 9).trans rfl, (blk_cell BK402.out 10).trans rfl, (blk_cell BK402.out 11).trans rfl, (blk_cell BK402.out 12).trans rfl, (blk_cell BK402.out 13).trans rfl, (blk_cell BK402.out 14).trans rfl⟩ (fun hHeld => ?_)
  clear hK K
  refine norm_ (a' := ?_) ?_ ?_
  rotate_left
  · show Act.put _ (some 10) _ = _
    simp only [Act.put, List.setIfInBounds_toArray, List.set_cons_zero, List.set_cons_succ, i64_w, i32_w]
    rfl
  refine one_ (i := 5) (N := some 12) #[true, true, true, true, true, true, false] rfl rfl (by kernel_rfl) (by decide) (fun K hK => ?_)
  refine goes_ Try.func23 (by kernel_rfl) rfl #[.agg #[.int .i64 a0_0, .int .i64 a0_1, .int .i64 a0_2, .int .i64 a0_3, .int .i64 a0_4, .int .i64 a0_5, .int .i64 a0_6], .int .i64 t403, .int .i64 a2] (by rfl) rfl rfl (by (try simp only [List.map_toArray, List.map_cons, List.map_nil]); first | done | rfl | (simp only [List.length_drop, List.length_take]; rfl)) ?_
  with_reducible refine (stepstoneref04_Cell.calls a0_0 a0_1 a0_2 a0_3 a0_4 a0_5 a0_6 t403 a2 t404 _ A5.out).mono ?_
  rintro e w8 ⟨rfl, hb⟩
  refine ⟨_, rfl, ?_⟩
  have n0_ := Aside0.mk (blk_below (g := gb402) (o := .cells #[.int .i64 a0_0, .int .i64 a0_1, .int .i64 a0_2, .int .i64 a0_3, .int .i64 a0_4, .int .i64 a0_5, .int .i64 a0_6, .slice A0_7 l0_7.length c0_7, .int .i64 a0_8, .int .i64 a0_9, .int .i64 a0_10, .int .u64 a0_11, .int .u64 a0_12, .int .u64 a0_13, .bool a0_14] 50 (0, 0)) (by (with_reducible repeat (first | refine blk_drewN ?_ _ | refine blk_drew ?_ | refine blk_alloc ?_ _)); exact BK402.out) hb)
  have n1_ := Aside0.mk (below_step (by repeat (first | (with_reducible first | exact HB.out | apply below_alloc | apply pw_below_drewN | apply below_drew1 | refine below_set ?_ GE402.out) | exact HB.out)) hb)
  clear BK402
  clear HB
  have BK402 := n0_
  have HB := n1_
  clear n0_ n1_
  (try clear hb)
  (try clear hb2)
  (try clear hk)
  (try clear hi)
  refine hK.out _ _ ⟨(blk_cell BK402.out 0).trans rfl, (blk_cell BK402.out 1).trans rfl, (blk_cell BK402.out 2).trans rfl, (blk_cell BK402.out 3).trans rfl, (blk_cell BK402.out 4).trans rfl, (blk_cell BK402.out 5).trans rfl, (blk_cell BK402.out 6).trans rfl, (blk_cell BK402.out 7).trans rfl, (blk_cell BK402.out 8).trans rfl, (blk_cell BK402.out 9).trans rfl, (blk_cell BK402.out 10).trans rfl, (blk_cell BK402.out 11).trans rfl, (blk_cell BK402.out 12).trans rfl, (blk_cell BK402.out 13).trans rfl, (blk_cell BK402.out 14).trans rfl⟩ (fun hHeld => ?_)
  clear hK K
  refine norm_ (a' := ?_) ?_ ?_
  rotate_left
  · show Act.put _ (some 12) _ = _
    simp only [Act.put, List.setIfInBounds_toArray, List.set_cons_zero, List.set_cons_succ, i64_w, i32_w]
    rfl
  refine pure_ (i := 6) (N := some 6) (v := ?_) (a' := ?_) #[true, true, true, true, true, true, true] rfl rfl (by kernel_rfl) (fun _ _ _ h => h) (Or.inl ⟨by rfl, ?_⟩) ?_ ?_
  rotate_left
  · intro w'
    go_simp
    with_reducible rfl
  rotate_left
  · simp only [Act.put, List.setIfInBounds_toArray, List.set_cons_zero, List.set_cons_succ, i64_w, i32_w]
    rfl
  refine done_ (by kernel_rfl) ?_
  try go_wp2
  go_ret
  exact ⟨by first | rfl | (simp [errW_none, errW_some] <;> rfl) | (simp [*, errW_none, errW_some] <;> rfl), by repeat (first | (with_reducible first | exact HB.out | apply below_alloc | apply pw_below_drewN | apply below_drew1 | refine below_set ?_ GE402.out) | exact HB.out)⟩

/-! ### stepstoneref01_Plain: function 87 -/
def stepstoneref01_Plain.f (a0 : Int) : Option (Int) := (stepstoneref01_Marked.f a0).bind fun t405 => (if t405 = true then (some (IntKind.u64.wrap (a0 - 4611686018427387904))) else (some a0))
set_option maxHeartbeats 8000000 in
set_option maxRecDepth 100000 in
theorem stepstoneref01_Plain.calls (a0 : Int) (r : Int) (w : World) (h : stepstoneref01_Plain.f a0 = some r) :
    Calls Try.prog 87 #[.int .u64 a0] w fun e w' => e = .returned (.int .u64 r) ∧ Drawn0 w w' := by
  have H : ((stepstoneref01_Marked.f a0).bind fun t405 => (if t405 = true then (some (IntKind.u64.wrap (a0 - 4611686018427387904))) else (some a0))) = some r := h
  clear h
  replace H := Option.bind_eq_some_iff.mp H
  obtain ⟨t405, A20, H⟩ := H
  replace H : (if t405 = true then (some (IntKind.u64.wrap (a0 - 4611686018427387904))) else (some a0)) = some r := H
  have A2 := Aside0.mk A20
  clear A20
  by_cases c3 : t405 = true
  · subst c3
    have H1 : (some (IntKind.u64.wrap (a0 - 4611686018427387904))) = some r := by rw [if_pos rfl] at H; exact H
    clear H
    have H := H1
    clear H1
    obtain rfl := Option.some.inj H
    go_enter Try.func87, Try.ntmps87
    go_wp2_with (first | ((with_reducible refine gate_callee (f := 69) rfl ?_); refine goesL_ (some 4) rfl rfl Try.func69 (by kernel_rfl) rfl #[.int .u64 a0] rfl (by (try simp only [List.map_toArray, List.map_cons, List.map_nil]); first | done | rfl | (simp only [List.length_drop, List.length_take]; rfl)) ?_; (with_reducible refine (stepstoneref01_Marked.calls a0 true _ A2.out).mono ?_); rintro e w' ⟨rfl, ⟨nd, rfl⟩⟩; refine ⟨_, rfl, ?_⟩))
    go_ret
    exact ⟨by first | rfl | (simp; done) | (simp [*]; done), by repeat (first | exact Drawn0.refl _ | apply Drawn0.step)⟩
  · replace c3 := Bool.eq_false_iff.mpr c3
    subst c3
    have H1 : (some a0) = some r := by rw [if_neg (show ¬ (false = true) by decide)] at H; exact H
    clear H
    have H := H1
    clear H1
    obtain rfl := Option.some.inj H
    go_enter Try.func87, Try.ntmps87
    go_wp2_with (first | ((with_reducible refine gate_callee (f := 69) rfl ?_); refine goesL_ (some 4) rfl rfl Try.func69 (by kernel_rfl) rfl #[.int .u64 a0] rfl (by (try simp only [List.map_toArray, List.map_cons, List.map_nil]); first | done | rfl | (simp only [List.length_drop, List.length_take]; rfl)) ?_; (with_reducible refine (stepstoneref01_Marked.calls a0 false _ A2.out).mono ?_); rintro e w' ⟨rfl, ⟨nd, rfl⟩⟩; refine ⟨_, rfl, ?_⟩))
    go_ret
    exact ⟨by first | rfl | (simp; done) | (simp [*]; done), by repeat (first | exact Drawn0.refl _ | apply Drawn0.step)⟩

-- NOT PRINTED: function 68 (stepstoneref05_Load)

/-! ### stepstoneref12_down: function 70 -/
def stepstoneref12_down.f (a0_0 : Int) (a0_1 : Int) (a0_2 : Int) (a0_3 : Int) (a0_4 : Bool) : Option (Int × Int × Int × Int × Bool) := some (a0_0, 1, wrap64 (a0_2 - 1), a0_3, (a0_2 == 0))
set_option maxHeartbeats 8000000 in
set_option maxRecDepth 100000 in
theorem stepstoneref12_down.calls (a0_0 : Int) (a0_1 : Int) (a0_2 : Int) (a0_3 : Int) (a0_4 : Bool) (r1 : Int) (r2 : Int) (r3 : Int) (r4 : Int) (r5 : Bool) (w : World) (h : stepstoneref12_down.f a0_0 a0_1 a0_2 a0_3 a0_4 = some (r1, r2, r3, r4, r5)) :
    Calls Try.prog 70 #[.agg #[.int .u64 a0_0, .int .i64 a0_1, .int .i64 a0_2, .int .u64 a0_3, .bool a0_4]] w fun e w' => e = .returned (.agg #[.int .u64 r1, .int .i64 r2, .int .i64 r3, .int .u64 r4, .bool r5]) ∧ Below w.heap.size w w' := by
  have hu84 := Try.underlying84
  have HB := Aside0.mk (Below.refl w.heap.size w)
  have H : (some (a0_0, 1, wrap64 (a0_2 - 1), a0_3, (a0_2 == 0))) = some (r1, r2, r3, r4, r5) := h
  clear h
  simp only [Option.some.injEq, Prod.mk.injEq] at H
  obtain ⟨rfl, rfl, rfl, rfl, rfl⟩ := H
  go_enter Try.func70, Try.ntmps70
  go_wp2_with (first | ((with_reducible refine gate_dst (N := 1) rfl ?_); refine box_event ?hg (N := 1) ?hd (cs := #[.int .u64 a0_0, .int .i64 a0_1, .int .i64 a0_2, .int .u64 a0_3, .bool a0_4]) (t := 84) ?hr ?_; (case hd => rfl); (case hg => rfl); (case hr => first | (go_simp; done) | (go_simp; rfl)); intro gb410 hg w2 hbox hb; have n0_ := Aside0.mk (below_step (by repeat (first | (with_reducible first | exact HB.out | apply below_alloc | apply pw_below_drewN | apply below_drew1) | exact HB.out)) hb); have n1_ := Aside0.mk (hbox); have n2_ := Aside0.mk ((by rw [hg]; exact (below_size (by repeat (first | (with_reducible first | exact HB.out | apply below_alloc | apply pw_below_drewN | apply below_drew1) | exact HB.out))) : w.heap.size ≤ gb410)); have n3_ := Aside0.mk ((by rw [hg]; exact (below_size (by repeat (first | (with_reducible first | exact HB.out | apply below_alloc | apply pw_below_drewN | apply below_drew1) | exact HB.out))) : w.heap.size ≤ gb410)); clear HB; have HB := n0_; have BK410 := n1_; have GW410 := n2_; have GE410 := n3_; clear n0_ n1_ n2_ n3_; clear hb hbox hg) | ((with_reducible refine gate_dst (N := 2) rfl ?_); refine box_event ?hg (N := 2) ?hd (cs := #[.int .u64 0, .int .i64 0, .int .i64 0, .int .u64 0, .bool false]) (t := 84) ?hr ?_; (case hd => rfl); (case hg => rfl); (case hr => first | (go_simp; done) | (go_simp; rfl)); intro gb411 hg w3 hbox hb; have n0_ := Aside0.mk (blk_below (g := gb410) (o := .cells #[.int .u64 a0_0, .int .i64 a0_1, .int .i64 a0_2, .int .u64 a0_3, .bool a0_4] 84 (0, 0)) (by (with_reducible repeat (first | refine blk_drewN ?_ _ | refine blk_drew ?_ | refine blk_alloc ?_ _)); exact BK410.out) hb); have n1_ := Aside0.mk (below_step (by repeat (first | (with_reducible first | exact HB.out | apply below_alloc | apply pw_below_drewN | apply below_drew1 | refine below_set ?_ GE410.out) | exact HB.out)) hb); have n2_ := Aside0.mk (hbox); have n3_ := Aside0.mk ((by rw [hg]; exact (below_size (by repeat (first | (with_reducible first | exact HB.out | apply below_alloc | apply pw_below_drewN | apply below_drew1 | refine below_set ?_ GE410.out) | exact HB.out))) : w.heap.size ≤ gb411)); have n4_ := Aside0.mk ((by rw [hg]; exact (below_size (by repeat (first | (with_reducible first | exact HB.out | apply below_alloc | apply pw_below_drewN | apply below_drew1 | refine below_set ?_ GE410.out) | exact HB.out))) : w.heap.size ≤ gb411)); have n5_ := Aside0.mk ((by rw [hg]; exact Nat.ne_of_lt (blk_lt (g := gb410) (o := .cells #[.int .u64 a0_0, .int .i64 a0_1, .int .i64 a0_2, .int .u64 a0_3, .bool a0_4] 84 (0, 0)) (by (with_reducible repeat (first | refine blk_drewN ?_ _ | refine blk_drew ?_ | refine blk_alloc ?_ _)); exact BK410.out)) : gb410 ≠ gb411)); have n6_ := Aside0.mk ((by rw [hg]; exact Nat.ne_of_gt (blk_lt (g := gb410) (o := .cells #[.int .u64 a0_0, .int .i64 a0_1, .int .i64 a0_2, .int .u64 a0_3, .bool a0_4] 84 (0, 0)) (by (with_reducible repeat (first | refine blk_drewN ?_ _ | refine blk_drew ?_ | refine blk_alloc ?_ _)); exact BK410.out)) : gb411 ≠ gb410)); clear BK410; clear HB; have BK410 := n0_; have HB := n1_; have BK411 := n2_; have GW411 := n3_; have GE411 := n4_; have NB410_411 := n5_; have NB411_410 := n6_; clear n0_ n1_ n2_ n3_ n4_ n5_ n6_; clear hb hbox hg; have hnb4 := NB410_411.out; have hnc4 := NB411_410.out; have hcz5_0 : w3.cell? ⟨gb410, 0, none⟩ = some (.int .u64 a0_0) := (blk_cell BK410.out 0).trans rfl; have hcz5_1 : w3.cell? ⟨gb410, 1, none⟩ = some (.int .i64 a0_1) := (blk_cell BK410.out 1).trans rfl; have hcz5_2 : w3.cell? ⟨gb410, 2, none⟩ = some (.int .i64 a0_2) := (blk_cell BK410.out 2).trans rfl; have hcz5_3 : w3.cell? ⟨gb410, 3, none⟩ = some (.int .u64 a0_3) := (blk_cell BK410.out 3).trans rfl; have hcz5_4 : w3.cell? ⟨gb410, 4, none⟩ = some (.bool a0_4) := (blk_cell BK410.out 4).trans rfl; have hfz5_0 := blk_frozen BK410.out 0; have hfz5_1 := blk_frozen BK410.out 1; have hfz5_2 := blk_frozen BK410.out 2; have hfz5_3 := blk_frozen BK410.out 3; have hfz5_4 := blk_frozen BK410.out 4; have hcz6_0 : w3.cell? ⟨gb411, 0, none⟩ = some (.int .u64 0) := (blk_cell BK411.out 0).trans rfl; have hcz6_1 : w3.cell? ⟨gb411, 1, none⟩ = some (.int .i64 0) := (blk_cell BK411.out 1).trans rfl; have hcz6_2 : w3.cell? ⟨gb411, 2, none⟩ = some (.int .i64 0) := (blk_cell BK411.out 2).trans rfl; have hcz6_3 : w3.cell? ⟨gb411, 3, none⟩ = some (.int .u64 0) := (blk_cell BK411.out 3).trans rfl; have hcz6_4 : w3.cell? ⟨gb411, 4, none⟩ = some (.bool false) := (blk_cell BK411.out 4).trans rfl; have hfz6_0 := blk_frozen BK411.out 0; have hfz6_1 := blk_frozen BK411.out 1; have hfz6_2 := blk_frozen BK411.out 2; have hfz6_3 := blk_frozen BK411.out 3; have hfz6_4 := blk_frozen BK411.out 4))
  refine bodyPost_ret (results_cell_row rfl _ _ gb411 84 #[.int .u64 a0_0, .int .i64 1, .int .i64 (wrap64 (a0_2 - 1)), .int .u64 a0_3, .bool (a0_2 == 0)] (0, 0) _ rfl (by (with_reducible repeat (first | refine blk_drewN ?_ _ | refine blk_drew ?_ | refine blk_alloc ?_ _)); refine blk_put (cs := #[.int .u64 a0_0, .int .i64 1, .int .i64 (wrap64 (a0_2 - 1)), .int .u64 a0_3, .bool false]) ?_ 4 _ rfl; (with_reducible repeat (first | refine blk_drewN ?_ _ | refine blk_drew ?_ | refine blk_alloc ?_ _)); refine blk_put (cs := #[.int .u64 a0_0, .int .i64 1, .int .i64 (wrap64 (a0_2 - 1)), .int .u64 0, .bool false]) ?_ 3 _ rfl; (with_reducible repeat (first | refine blk_drewN ?_ _ | refine blk_drew ?_ | refine blk_alloc ?_ _)); refine blk_put (cs := #[.int .u64 a0_0, .int .i64 1, .int .i64 0, .int .u64 0, .bool false]) ?_ 2 _ rfl; (with_reducible repeat (first | refine blk_drewN ?_ _ | refine blk_drew ?_ | refine blk_alloc ?_ _)); refine blk_put (cs := #[.int .u64 a0_0, .int .i64 0, .int .i64 0, .int .u64 0, .bool false]) ?_ 1 _ rfl; (with_reducible repeat (first | refine blk_drewN ?_ _ | refine blk_drew ?_ | refine blk_alloc ?_ _)); refine blk_put (cs := #[.int .u64 0, .int .i64 0, .int .i64 0, .int .u64 0, .bool false]) ?_ 0 _ rfl; (with_reducible repeat (first | refine blk_drewN ?_ _ | refine blk_drew ?_ | refine blk_alloc ?_ _)); refine blk_far ?_ NB411_410.out _; (with_reducible repeat (first | refine blk_drewN ?_ _ | refine blk_drew ?_ | refine blk_alloc ?_ _)); refine blk_far ?_ NB411_410.out _; (with_reducible repeat (first | refine blk_drewN ?_ _ | refine blk_drew ?_ | refine blk_alloc ?_ _)); refine blk_far ?_ NB411_410.out _; (with_reducible repeat (first | refine blk_drewN ?_ _ | refine blk_drew ?_ | refine blk_alloc ?_ _)); exact BK411.out) Try.underlying84 rfl (by kernel_rfl)) rfl ?_
  exact ⟨by first | rfl | (simp [errW_none, errW_some] <;> rfl) | (simp [*, errW_none, errW_some] <;> rfl), by repeat (first | (with_reducible first | exact HB.out | apply below_alloc | apply pw_below_drewN | apply below_drew1 | refine below_set ?_ GE410.out | refine below_set ?_ GE411.out) | exact HB.out)⟩

-- NOT PRINTED: function 88 (stepstoneref03_Swap)

-- NOT PRINTED: function 71 (stepstoneref05_Swap)

-- NOT PRINTED: function 45 (stepstoneref12_Step)

end Go.Proofs.Ythbkncklliiooaa.Q
