/-
  PlanMore: the walk.
-/
import Derived.Test.YthbkncklliiooaaHq
import Derived.Test.YthbkncklliiooaaPub
import Derived.Test.YthbkncklliiooaaReg
import Derived.Test.YthbkncklliiooaaPuh
namespace Go.Proofs.YthbkncklliiooaaH
set_option linter.unusedVariables false
set_option linter.unusedSimpArgs false
open Go.RowKit Go.Proofs.Ythbkncklliiooaa.Q

def Cf.cap (c : Cf) : Cf := { c with cp := c.cp + 1 }
def Cf.high (c : Cf) : Cf := { c with he := c.he + 1 }

theorem CfAt.lt {w : World} {b : Nat} {c : Cf} (h : CfAt w b c) : b < w.heap.size := Blk.lt h

theorem cap_ok (c : Cf) (h : c.Ok) (hc : c.cp < 64) : c.cap.Ok := by
  unfold Cf.Ok Cf.cap at *
  simp only
  omega
theorem high_ok (c : Cf) (h : c.Ok) (hc : c.he < 6) : c.high.Ok := by
  unfold Cf.Ok Cf.high at *
  simp only
  omega

theorem more_res_cap (c : Cf) (h : c.Ok) (hc : c.cp < 64) (a b : Int) : c.cap.res a b = c.res a b := by
  unfold Cf.res
  have h' := cap_ok c h hc
  by_cases k : (0 ≤ a ∧ a < c.th) ∧ (0 ≤ b ∧ b < c.sl)
  · rw [if_pos (show c.cap.Ok ∧ (0 ≤ a ∧ a < c.cap.th) ∧ (0 ≤ b ∧ b < c.cap.sl) from ⟨h', k⟩), if_pos ⟨h, k⟩]; rfl
  · rw [if_neg (fun q => k q.2), if_neg (fun q => k q.2)]
theorem more_res_high (c : Cf) (h : c.Ok) (hc : c.he < 6) (a b : Int) : c.high.res a b = c.res a b := by
  unfold Cf.res
  have h' := high_ok c h hc
  by_cases k : (0 ≤ a ∧ a < c.th) ∧ (0 ≤ b ∧ b < c.sl)
  · rw [if_pos (show c.high.Ok ∧ (0 ≤ a ∧ a < c.high.th) ∧ (0 ≤ b ∧ b < c.high.sl) from ⟨h', k⟩), if_pos ⟨h, k⟩]; rfl
  · rw [if_neg (fun q => k q.2), if_neg (fun q => k q.2)]
theorem more_cel_cap (c : Cf) (h : c.Ok) (hc : c.cp < 64) (a b : Int) (hx : 0 ≤ c.cel a b) : c.cap.cel a b = c.cel a b := by
  rcases cel_cases c a b with e | ⟨ho, ha, hb⟩
  · omega
  · rw [(cel_yes c ho ha hb).1, (cel_yes c.cap (cap_ok c h hc) ⟨ha.1, by have : c.cap.cp = c.cp + 1 := rfl; omega⟩ hb).1]; rfl
theorem more_cel_high (c : Cf) (h : c.Ok) (hc : c.he < 6) (a b : Int) (hx : 0 ≤ c.cel a b) : c.high.cel a b = c.cel a b + a := by
  rcases cel_cases c a b with e | ⟨ho, ha, hb⟩
  · omega
  · have hf : c.high.fields = c.fields + 1 := by unfold Cf.fields Cf.high; simp only; omega
    rw [(cel_yes c ho ha hb).1, (cel_yes c.high (high_ok c h hc) ha ⟨hb.1, by omega⟩).1, hf, show c.high.first = c.first from rfl, Int.mul_add]
    omega
theorem more_len_cap (c : Cf) (h : c.Ok) (hc : c.cp < 64) : c.cap.cells = c.cells + c.fields := by
  rw [c.cells_ok h, c.cap.cells_ok (cap_ok c h hc), show c.cap.first = c.first from rfl, show c.cap.fields = c.fields from rfl, show c.cap.cp = c.cp + 1 from rfl, Int.add_mul (c.cp + 1)]
  omega
theorem more_len_high (c : Cf) (h : c.Ok) (hc : c.he < 6) : c.high.cells = c.cells + c.cp + 1 := by
  have hf : c.high.fields = c.fields + 1 := by unfold Cf.fields Cf.high; simp only; omega
  rw [c.cells_ok h, c.high.cells_ok (high_ok c h hc), show c.high.first = c.first from rfl, hf, show c.high.cp = c.cp from rfl, Int.mul_add]
  omega

theorem more_a (c : Cf) (a b : Int) (hx : 0 ≤ c.cel a b) : 0 ≤ a ∧ a ≤ 64 ∧ c.cel a b ≤ 1000 := by
  rcases cel_cases c a b with e | ⟨ho, ha, hb⟩
  · omega
  · obtain ⟨e, h1, h2⟩ := cel_yes c ho ha hb
    have := ho.2.2.2.2.2.1
    obtain ⟨b0, b1, b2, b3, b4, b5⟩ := c.bounds ho
    have := c.cells_ok ho
    omega

set_option maxRecDepth 100000 in
set_option maxHeartbeats 8000000 in
theorem more_cap (c : Cf) (a b : Int) (w : World) (h1 : 64 ≤ c.cp) :
    Calls Try.prog 8 #[.agg #[.int .i64 c.th, .int .i64 c.sl, .int .i64 c.cp, .int .i64 c.he, .int .i64 c.ke, .int .i64 c.ev, .int .i64 c.la], .int .i64 a, .int .i64 b] w fun e w' => e = .returned (.bool true) ∧ Below w.heap.size w w' := by
  go_enter Try.func8, Try.ntmps8
  go_wp2_with fail
  have X : CfAt (w.alloc (.cells #[.int .i64 c.th, .int .i64 c.sl, .int .i64 c.cp, .int .i64 c.he, .int .i64 c.ke, .int .i64 c.ev, .int .i64 c.la] 23)) w.heap.size c := Blk.new _ _ _
  have G0 : Gr w (w.alloc (.cells #[.int .i64 c.th, .int .i64 c.sl, .int .i64 c.cp, .int .i64 c.he, .int .i64 c.ke, .int .i64 c.ev, .int .i64 c.la] 23)) := (Gr.refl w).alloc _
  have hs : (w.alloc (.cells #[.int .i64 c.th, .int .i64 c.sl, .int .i64 c.cp, .int .i64 c.he, .int .i64 c.ke, .int .i64 c.ev, .int .i64 c.la] 23)).heap.size = w.heap.size + 1 := by simp
  obtain ⟨x0, x1, x2, x3, x4, x5, x6⟩ := X.c7
  generalize (w.alloc (.cells #[.int .i64 c.th, .int .i64 c.sl, .int .i64 c.cp, .int .i64 c.he, .int .i64 c.ke, .int .i64 c.ev, .int .i64 c.la] 23)) = W at *
  have HS := hid hs
  have hlt : w.heap.size < W.heap.size := by omega
  clear hs
  go_region
  all_goals
    have Y0 : CfAt (((W.alloc (.cells #[.int .i64 c.th, .int .i64 c.sl, .int .i64 c.cp, .int .i64 c.he, .int .i64 c.ke, .int .i64 c.ev, .int .i64 c.la] 23)).alloc (.cells #[.int .i64 c.th, .int .i64 c.sl, .int .i64 c.cp, .int .i64 c.he, .int .i64 c.ke, .int .i64 c.ev, .int .i64 c.la] 23)).drew) w.heap.size c := Blk.gr X ((((Gr.refl W).alloc _).alloc _).drew)
    have Y1 : CfAt (((W.alloc (.cells #[.int .i64 c.th, .int .i64 c.sl, .int .i64 c.cp, .int .i64 c.he, .int .i64 c.ke, .int .i64 c.ev, .int .i64 c.la] 23)).alloc (.cells #[.int .i64 c.th, .int .i64 c.sl, .int .i64 c.cp, .int .i64 c.he, .int .i64 c.ke, .int .i64 c.ev, .int .i64 c.la] 23)).drew) W.heap.size c := Blk.gr ((Blk.new _ _ _).alloc _) ((Gr.refl _).drew)
    have Y2 : CfAt (((W.alloc (.cells #[.int .i64 c.th, .int .i64 c.sl, .int .i64 c.cp, .int .i64 c.he, .int .i64 c.ke, .int .i64 c.ev, .int .i64 c.la] 23)).alloc (.cells #[.int .i64 c.th, .int .i64 c.sl, .int .i64 c.cp, .int .i64 c.he, .int .i64 c.ke, .int .i64 c.ev, .int .i64 c.la] 23)).drew) (W.heap.size + 1) c := Blk.gr (Blk.new' (by simp)) ((Gr.refl _).drew)
    have G1 : Gr w (((W.alloc (.cells #[.int .i64 c.th, .int .i64 c.sl, .int .i64 c.cp, .int .i64 c.he, .int .i64 c.ke, .int .i64 c.ev, .int .i64 c.la] 23)).alloc (.cells #[.int .i64 c.th, .int .i64 c.sl, .int .i64 c.cp, .int .i64 c.he, .int .i64 c.ke, .int .i64 c.ev, .int .i64 c.la] 23)).drew) := G0.trans ((((Gr.refl W).alloc _).alloc _).drew)
    clear x0 x1 x2 x3 x4 x5 x6
    obtain ⟨x0, x1, x2, x3, x4, x5, x6⟩ := Y0.c7
    generalize (((W.alloc (.cells #[.int .i64 c.th, .int .i64 c.sl, .int .i64 c.cp, .int .i64 c.he, .int .i64 c.ke, .int .i64 c.ev, .int .i64 c.la] 23)).alloc (.cells #[.int .i64 c.th, .int .i64 c.sl, .int .i64 c.cp, .int .i64 c.he, .int .i64 c.ke, .int .i64 c.ev, .int .i64 c.la] 23)).drew) = V at *
    go_wp2_with fail
    refine (alive_given _).mono ?_
    rintro e V1 ⟨rfl, g1⟩
    go_wp2_with fail
    go_ret
    exact ⟨rfl, Gr.trans G1 g1⟩

set_option maxRecDepth 100000 in
set_option maxHeartbeats 8000000 in
theorem more_high (c : Cf) (a b : Int) (w : World) (h1 : c.cp < 64) (h2 : 6 ≤ c.he) :
    Calls Try.prog 8 #[.agg #[.int .i64 c.th, .int .i64 c.sl, .int .i64 c.cp, .int .i64 c.he, .int .i64 c.ke, .int .i64 c.ev, .int .i64 c.la], .int .i64 a, .int .i64 b] w fun e w' => e = .returned (.bool true) ∧ Below w.heap.size w w' := by
  go_enter Try.func8, Try.ntmps8
  go_wp2_with fail
  have X : CfAt (w.alloc (.cells #[.int .i64 c.th, .int .i64 c.sl, .int .i64 c.cp, .int .i64 c.he, .int .i64 c.ke, .int .i64 c.ev, .int .i64 c.la] 23)) w.heap.size c := Blk.new _ _ _
  have G0 : Gr w (w.alloc (.cells #[.int .i64 c.th, .int .i64 c.sl, .int .i64 c.cp, .int .i64 c.he, .int .i64 c.ke, .int .i64 c.ev, .int .i64 c.la] 23)) := (Gr.refl w).alloc _
  have hs : (w.alloc (.cells #[.int .i64 c.th, .int .i64 c.sl, .int .i64 c.cp, .int .i64 c.he, .int .i64 c.ke, .int .i64 c.ev, .int .i64 c.la] 23)).heap.size = w.heap.size + 1 := by simp
  obtain ⟨x0, x1, x2, x3, x4, x5, x6⟩ := X.c7
  generalize (w.alloc (.cells #[.int .i64 c.th, .int .i64 c.sl, .int .i64 c.cp, .int .i64 c.he, .int .i64 c.ke, .int .i64 c.ev, .int .i64 c.la] 23)) = W at *
  have HS := hid hs
  have hlt : w.heap.size < W.heap.size := by omega
  clear hs
  go_region
  all_goals
    have Y0 : CfAt (((W.alloc (.cells #[.int .i64 c.th, .int .i64 c.sl, .int .i64 c.cp, .int .i64 c.he, .int .i64 c.ke, .int .i64 c.ev, .int .i64 c.la] 23)).alloc (.cells #[.int .i64 c.th, .int .i64 c.sl, .int .i64 c.cp, .int .i64 c.he, .int .i64 c.ke, .int .i64 c.ev, .int .i64 c.la] 23)).drew) w.heap.size c := Blk.gr X ((((Gr.refl W).alloc _).alloc _).drew)
    have Y1 : CfAt (((W.alloc (.cells #[.int .i64 c.th, .int .i64 c.sl, .int .i64 c.cp, .int .i64 c.he, .int .i64 c.ke, .int .i64 c.ev, .int .i64 c.la] 23)).alloc (.cells #[.int .i64 c.th, .int .i64 c.sl, .int .i64 c.cp, .int .i64 c.he, .int .i64 c.ke, .int .i64 c.ev, .int .i64 c.la] 23)).drew) W.heap.size c := Blk.gr ((Blk.new _ _ _).alloc _) ((Gr.refl _).drew)
    have Y2 : CfAt (((W.alloc (.cells #[.int .i64 c.th, .int .i64 c.sl, .int .i64 c.cp, .int .i64 c.he, .int .i64 c.ke, .int .i64 c.ev, .int .i64 c.la] 23)).alloc (.cells #[.int .i64 c.th, .int .i64 c.sl, .int .i64 c.cp, .int .i64 c.he, .int .i64 c.ke, .int .i64 c.ev, .int .i64 c.la] 23)).drew) (W.heap.size + 1) c := Blk.gr (Blk.new' (by simp)) ((Gr.refl _).drew)
    have G1 : Gr w (((W.alloc (.cells #[.int .i64 c.th, .int .i64 c.sl, .int .i64 c.cp, .int .i64 c.he, .int .i64 c.ke, .int .i64 c.ev, .int .i64 c.la] 23)).alloc (.cells #[.int .i64 c.th, .int .i64 c.sl, .int .i64 c.cp, .int .i64 c.he, .int .i64 c.ke, .int .i64 c.ev, .int .i64 c.la] 23)).drew) := G0.trans ((((Gr.refl W).alloc _).alloc _).drew)
    clear x0 x1 x2 x3 x4 x5 x6
    obtain ⟨x0, x1, x2, x3, x4, x5, x6⟩ := Y0.c7
    generalize (((W.alloc (.cells #[.int .i64 c.th, .int .i64 c.sl, .int .i64 c.cp, .int .i64 c.he, .int .i64 c.ke, .int .i64 c.ev, .int .i64 c.la] 23)).alloc (.cells #[.int .i64 c.th, .int .i64 c.sl, .int .i64 c.cp, .int .i64 c.he, .int .i64 c.ke, .int .i64 c.ev, .int .i64 c.la] 23)).drew) = V at *
    go_wp2_with fail
    refine (alive_given _).mono ?_
    rintro e V1 ⟨rfl, g1⟩
    go_wp2_with fail
    go_ret
    exact ⟨rfl, Gr.trans G1 g1⟩

set_option maxRecDepth 100000 in
set_option maxHeartbeats 8000000 in
theorem more_wrong (c : Cf) (a b : Int) (w : World) (h1 : c.cp < 64) (h2 : c.he < 6) (h3 : ¬ c.Ok) :
    Calls Try.prog 8 #[.agg #[.int .i64 c.th, .int .i64 c.sl, .int .i64 c.cp, .int .i64 c.he, .int .i64 c.ke, .int .i64 c.ev, .int .i64 c.la], .int .i64 a, .int .i64 b] w fun e w' => e = .returned (.bool true) ∧ Below w.heap.size w w' := by
  have hr := right_any c
  rw [decide_eq_false h3] at hr
  unfold Cf.val at hr
  have HR := hid hr
  clear hr h3
  go_enter Try.func8, Try.ntmps8
  go_wp2_with fail
  have X : CfAt (w.alloc (.cells #[.int .i64 c.th, .int .i64 c.sl, .int .i64 c.cp, .int .i64 c.he, .int .i64 c.ke, .int .i64 c.ev, .int .i64 c.la] 23)) w.heap.size c := Blk.new _ _ _
  have G0 : Gr w (w.alloc (.cells #[.int .i64 c.th, .int .i64 c.sl, .int .i64 c.cp, .int .i64 c.he, .int .i64 c.ke, .int .i64 c.ev, .int .i64 c.la] 23)) := (Gr.refl w).alloc _
  have hs : (w.alloc (.cells #[.int .i64 c.th, .int .i64 c.sl, .int .i64 c.cp, .int .i64 c.he, .int .i64 c.ke, .int .i64 c.ev, .int .i64 c.la] 23)).heap.size = w.heap.size + 1 := by simp
  obtain ⟨x0, x1, x2, x3, x4, x5, x6⟩ := X.c7
  generalize (w.alloc (.cells #[.int .i64 c.th, .int .i64 c.sl, .int .i64 c.cp, .int .i64 c.he, .int .i64 c.ke, .int .i64 c.ev, .int .i64 c.la] 23)) = W at *
  have HS := hid hs
  have hlt : w.heap.size < W.heap.size := by omega
  clear hs
  go_region
  all_goals
    have Y0 : CfAt (((W.alloc (.cells #[.int .i64 c.th, .int .i64 c.sl, .int .i64 c.cp, .int .i64 c.he, .int .i64 c.ke, .int .i64 c.ev, .int .i64 c.la] 23)).alloc (.cells #[.int .i64 c.th, .int .i64 c.sl, .int .i64 c.cp, .int .i64 c.he, .int .i64 c.ke, .int .i64 c.ev, .int .i64 c.la] 23)).drew) w.heap.size c := Blk.gr X ((((Gr.refl W).alloc _).alloc _).drew)
    have Y1 : CfAt (((W.alloc (.cells #[.int .i64 c.th, .int .i64 c.sl, .int .i64 c.cp, .int .i64 c.he, .int .i64 c.ke, .int .i64 c.ev, .int .i64 c.la] 23)).alloc (.cells #[.int .i64 c.th, .int .i64 c.sl, .int .i64 c.cp, .int .i64 c.he, .int .i64 c.ke, .int .i64 c.ev, .int .i64 c.la] 23)).drew) W.heap.size c := Blk.gr ((Blk.new _ _ _).alloc _) ((Gr.refl _).drew)
    have Y2 : CfAt (((W.alloc (.cells #[.int .i64 c.th, .int .i64 c.sl, .int .i64 c.cp, .int .i64 c.he, .int .i64 c.ke, .int .i64 c.ev, .int .i64 c.la] 23)).alloc (.cells #[.int .i64 c.th, .int .i64 c.sl, .int .i64 c.cp, .int .i64 c.he, .int .i64 c.ke, .int .i64 c.ev, .int .i64 c.la] 23)).drew) (W.heap.size + 1) c := Blk.gr (Blk.new' (by simp)) ((Gr.refl _).drew)
    have G1 : Gr w (((W.alloc (.cells #[.int .i64 c.th, .int .i64 c.sl, .int .i64 c.cp, .int .i64 c.he, .int .i64 c.ke, .int .i64 c.ev, .int .i64 c.la] 23)).alloc (.cells #[.int .i64 c.th, .int .i64 c.sl, .int .i64 c.cp, .int .i64 c.he, .int .i64 c.ke, .int .i64 c.ev, .int .i64 c.la] 23)).drew) := G0.trans ((((Gr.refl W).alloc _).alloc _).drew)
    clear x0 x1 x2 x3 x4 x5 x6
    obtain ⟨x0, x1, x2, x3, x4, x5, x6⟩ := Y0.c7
    generalize (((W.alloc (.cells #[.int .i64 c.th, .int .i64 c.sl, .int .i64 c.cp, .int .i64 c.he, .int .i64 c.ke, .int .i64 c.ev, .int .i64 c.la] 23)).alloc (.cells #[.int .i64 c.th, .int .i64 c.sl, .int .i64 c.cp, .int .i64 c.he, .int .i64 c.ke, .int .i64 c.ev, .int .i64 c.la] 23)).drew) = V at *
    go_wp2_with fail
    refine (HR.out _).mono ?_
    rintro e V0 ⟨rfl, g0⟩
    go_wp2_with fail
    refine (alive_given _).mono ?_
    rintro e V1 ⟨rfl, g1⟩
    go_wp2_with fail
    go_ret
    exact ⟨rfl, Gr.trans G1 (Gr.trans g0 g1)⟩

set_option maxRecDepth 100000 in
set_option maxHeartbeats 8000000 in
theorem more_no (c : Cf) (a b : Int) (w : World) (h1 : c.cp < 64) (h2 : c.he < 6) (h3 : c.Ok) (h4 : ¬ 0 ≤ c.cel a b) :
    Calls Try.prog 8 #[.agg #[.int .i64 c.th, .int .i64 c.sl, .int .i64 c.cp, .int .i64 c.he, .int .i64 c.ke, .int .i64 c.ev, .int .i64 c.la], .int .i64 a, .int .i64 b] w fun e w' => e = .returned (.bool true) ∧ Below w.heap.size w w' := by
  have hr := right_any c
  have hx := cell_any c a b
  have hp := reserved_any c a b
  have hp2 := reserved_any c.cap a b
  have hp3 := reserved_any c.high a b
  have hl := len_any c
  have hl2 := len_any c.cap
  have hl3 := len_any c.high
  rw [decide_eq_true h3] at hr
  rw [more_res_cap c h3 h1] at hp2
  rw [more_res_high c h3 h2] at hp3
  rw [more_len_cap c h3 h1] at hl2
  rw [more_len_high c h3 h2] at hl3
  have hx2 := cell_any c.cap a b
  have hx3 := cell_any c.high a b
  generalize hxe : c.cel a b = x at *
  generalize c.cap.cel a b = x2 at *
  generalize c.high.cel a b = x3 at *
  obtain ⟨b0, b1, b2, b3, b4, b5⟩ := c.bounds h3
  have hcl := c.cells_ok h3
  have hcp := h3.2.2.2.2.1
  have hhe := h3.2.2.2.2.2.2.1
  have hl0 : 0 ≤ c.cells := by omega
  have hl1 : c.cells ≤ 1000 := by omega
  have hs1 : IntKind.i64.wrap (c.cells + c.cp) = c.cells + c.cp := by rw [IntKind.wrap_i64]; omega
  have hs2 : IntKind.i64.wrap (c.cells + c.cp + 1) = c.cells + c.cp + 1 := by rw [IntKind.wrap_i64]; omega
  have hs3 : decide (c.cells < c.cells + c.fields) = true := by simp; omega
  unfold Cf.val at hr hx hx2 hx3 hp hp2 hp3 hl hl2 hl3
  generalize c.res a b = p at *
  generalize c.cells = L at *
  generalize c.fields = fe at *
  have HR := hid hr
  have HX := hid hx
  have HX2 := hid hx2
  have HX3 := hid hx3
  have HP := hid hp
  have HP2 := hid hp2
  have HP3 := hid hp3
  have HL := hid hl
  have HL2 := hid hl2
  have HL3 := hid hl3
  have HE := hid hcl
  have HE2 := hid hxe
  clear hr hx hx2 hx3 hp hp2 hp3 hl hl2 hl3 hcl hxe h3 b0 b1 b4 b5
  go_enter Try.func8, Try.ntmps8
  go_wp2_with fail
  have X : CfAt (w.alloc (.cells #[.int .i64 c.th, .int .i64 c.sl, .int .i64 c.cp, .int .i64 c.he, .int .i64 c.ke, .int .i64 c.ev, .int .i64 c.la] 23)) w.heap.size c := Blk.new _ _ _
  have G0 : Gr w (w.alloc (.cells #[.int .i64 c.th, .int .i64 c.sl, .int .i64 c.cp, .int .i64 c.he, .int .i64 c.ke, .int .i64 c.ev, .int .i64 c.la] 23)) := (Gr.refl w).alloc _
  have hs : (w.alloc (.cells #[.int .i64 c.th, .int .i64 c.sl, .int .i64 c.cp, .int .i64 c.he, .int .i64 c.ke, .int .i64 c.ev, .int .i64 c.la] 23)).heap.size = w.heap.size + 1 := by simp
  obtain ⟨x0, x1, x2, x3, x4, x5, x6⟩ := X.c7
  generalize (w.alloc (.cells #[.int .i64 c.th, .int .i64 c.sl, .int .i64 c.cp, .int .i64 c.he, .int .i64 c.ke, .int .i64 c.ev, .int .i64 c.la] 23)) = W at *
  have HS := hid hs
  have hlt : w.heap.size < W.heap.size := by omega
  clear hs
  go_region
  all_goals
    have Y0 : CfAt (((W.alloc (.cells #[.int .i64 c.th, .int .i64 c.sl, .int .i64 c.cp, .int .i64 c.he, .int .i64 c.ke, .int .i64 c.ev, .int .i64 c.la] 23)).alloc (.cells #[.int .i64 c.th, .int .i64 c.sl, .int .i64 c.cp, .int .i64 c.he, .int .i64 c.ke, .int .i64 c.ev, .int .i64 c.la] 23)).drew) w.heap.size c := Blk.gr X ((((Gr.refl W).alloc _).alloc _).drew)
    have Y1 : CfAt (((W.alloc (.cells #[.int .i64 c.th, .int .i64 c.sl, .int .i64 c.cp, .int .i64 c.he, .int .i64 c.ke, .int .i64 c.ev, .int .i64 c.la] 23)).alloc (.cells #[.int .i64 c.th, .int .i64 c.sl, .int .i64 c.cp, .int .i64 c.he, .int .i64 c.ke, .int .i64 c.ev, .int .i64 c.la] 23)).drew) W.heap.size c := Blk.gr ((Blk.new _ _ _).alloc _) ((Gr.refl _).drew)
    have Y2 : CfAt (((W.alloc (.cells #[.int .i64 c.th, .int .i64 c.sl, .int .i64 c.cp, .int .i64 c.he, .int .i64 c.ke, .int .i64 c.ev, .int .i64 c.la] 23)).alloc (.cells #[.int .i64 c.th, .int .i64 c.sl, .int .i64 c.cp, .int .i64 c.he, .int .i64 c.ke, .int .i64 c.ev, .int .i64 c.la] 23)).drew) (W.heap.size + 1) c := Blk.gr (Blk.new' (by simp)) ((Gr.refl _).drew)
    have G1 : Gr w (((W.alloc (.cells #[.int .i64 c.th, .int .i64 c.sl, .int .i64 c.cp, .int .i64 c.he, .int .i64 c.ke, .int .i64 c.ev, .int .i64 c.la] 23)).alloc (.cells #[.int .i64 c.th, .int .i64 c.sl, .int .i64 c.cp, .int .i64 c.he, .int .i64 c.ke, .int .i64 c.ev, .int .i64 c.la] 23)).drew) := G0.trans ((((Gr.refl W).alloc _).alloc _).drew)
    clear x0 x1 x2 x3 x4 x5 x6
    obtain ⟨x0, x1, x2, x3, x4, x5, x6⟩ := Y0.c7
    generalize (((W.alloc (.cells #[.int .i64 c.th, .int .i64 c.sl, .int .i64 c.cp, .int .i64 c.he, .int .i64 c.ke, .int .i64 c.ev, .int .i64 c.la] 23)).alloc (.cells #[.int .i64 c.th, .int .i64 c.sl, .int .i64 c.cp, .int .i64 c.he, .int .i64 c.ke, .int .i64 c.ev, .int .i64 c.la] 23)).drew) = V at *
  · go_wp2_with fail
    refine (HR.out _).mono ?_
    rintro e V1 ⟨rfl, g1⟩
    have G2 : Gr w V1 := G1.trans g1
    have Z0 : CfAt V1 w.heap.size c := Y0.gr g1
    have Z1 : CfAt V1 W.heap.size c := Y1.gr g1
    have Z2 : CfAt V1 (W.heap.size + 1) c := Y2.gr g1
    have f0 := fun i => Blk.free Z1 i
    have f1 := fun i => Blk.free Z2 i
    clear x0 x1 x2 x3 x4 x5 x6 Y0 Y1 Y2 g1
    obtain ⟨x0, x1, x2, x3, x4, x5, x6⟩ := Z0.c7
    obtain ⟨y0, y1, y2, y3, y4, y5, y6⟩ := Z1.c7
    obtain ⟨z0, z1, z2, z3, z4, z5, z6⟩ := Z2.c7
    have l0 := Z0.lt
    have l1 := Z1.lt
    have l2 := Z2.lt
    go_wp2_with fail
    have U0 : CfAt ((V1.setCell ⟨W.heap.size, 2, none⟩ (.int .i64 (c.cp + 1))).setCell ⟨W.heap.size + 1, 3, none⟩ (.int .i64 (c.he + 1))) w.heap.size c := Blk.set_other (Blk.set_other Z0 (by simp; omega) _) (by simp; omega) _
    have U1 : CfAt ((V1.setCell ⟨W.heap.size, 2, none⟩ (.int .i64 (c.cp + 1))).setCell ⟨W.heap.size + 1, 3, none⟩ (.int .i64 (c.he + 1))) (W.heap.size) c.cap := Blk.set_other (Blk.set Z1 2 _) (by simp) _
    have U2 : CfAt ((V1.setCell ⟨W.heap.size, 2, none⟩ (.int .i64 (c.cp + 1))).setCell ⟨W.heap.size + 1, 3, none⟩ (.int .i64 (c.he + 1))) (W.heap.size + 1) c.high := Blk.set (Blk.set_other Z2 (by simp) _) 3 _
    have G3 : Gr w ((V1.setCell ⟨W.heap.size, 2, none⟩ (.int .i64 (c.cp + 1))).setCell ⟨W.heap.size + 1, 3, none⟩ (.int .i64 (c.he + 1))) := (G2.setCell (by simp; omega) _).setCell (by simp; omega) _
    generalize ((V1.setCell ⟨W.heap.size, 2, none⟩ (.int .i64 (c.cp + 1))).setCell ⟨W.heap.size + 1, 3, none⟩ (.int .i64 (c.he + 1))) = V2 at *
    clear x0 x1 x2 x3 x4 x5 x6 y0 y1 y2 y3 y4 y5 y6 z0 z1 z2 z3 z4 z5 z6 f0 f1 Z0 Z1 Z2 l0 l1 l2 G2 G1 G0 X HS hlt
    have hne : Nonempty (St (Gr V2)) := ⟨⟨V2, Gr.refl _⟩⟩
    obtain ⟨x0, x1, x2, x3, x4, x5, x6⟩ := U0.st
    refine wp_region_inv (Gr V2) (by kernel_rfl) (by kernel_rfl) (Gr.refl V2).drew ?_
    repeat (go_big_quiet_step (first | (go_at_call 21; (with_reducible exact Calls.st_gr (HX.out _))) | (go_at_call 20; (with_reducible exact Calls.st_gr (HP.out _)))))
    refine wpQuiet_nil ?_
    rintro V3 ⟨⟨_, g3⟩, rfl⟩
    clear x0 x1 x2 x3 x4 x5 x6 hne
    have hne : Nonempty (St (Gr V3)) := ⟨⟨V3, Gr.refl _⟩⟩
    obtain ⟨x0, x1, x2, x3, x4, x5, x6⟩ := (U0.gr g3).st
    obtain ⟨y0, y1, y2, y3, y4, y5, y6⟩ := (U1.gr g3).st
    obtain ⟨z0, z1, z2, z3, z4, z5, z6⟩ := (U2.gr g3).st
    have G4 := G3.trans g3
    clear U0 U1 U2 G3 g3
    go_wp2_with fail
    refine wp_region_inv (Gr V3) (by kernel_rfl) (by kernel_rfl) (Gr.refl V3).drew ?_
    repeat (go_big_quiet_step (first | (go_at_call 15; (with_reducible exact Calls.st_gr (alive_given _))) | (go_at_call 21; first | (with_reducible exact Calls.st_gr (HX2.out _)) | (with_reducible exact Calls.st_gr (HX3.out _))) | (go_at_call 20; first | (with_reducible exact Calls.st_gr (HP2.out _)) | (with_reducible exact Calls.st_gr (HP3.out _))) | (go_at_call 18; first | (with_reducible exact Calls.st_gr (HL.out _)) | (with_reducible exact Calls.st_gr (HL2.out _)) | (with_reducible exact Calls.st_gr (HL3.out _)))))
    refine wpQuiet_nil ?_
    rintro V4 ⟨⟨_, g4⟩, rfl⟩
    go_wp2_with fail
    go_ret
    exact ⟨rfl, Gr.trans G4 g4⟩
  · go_wp2_with fail
    refine (HR.out _).mono ?_
    rintro e V1 ⟨rfl, g1⟩
    have G2 : Gr w V1 := G1.trans g1
    have Z0 : CfAt V1 w.heap.size c := Y0.gr g1
    have Z1 : CfAt V1 W.heap.size c := Y1.gr g1
    have Z2 : CfAt V1 (W.heap.size + 1) c := Y2.gr g1
    have f0 := fun i => Blk.free Z1 i
    have f1 := fun i => Blk.free Z2 i
    clear x0 x1 x2 x3 x4 x5 x6 Y0 Y1 Y2 g1
    obtain ⟨x0, x1, x2, x3, x4, x5, x6⟩ := Z0.c7
    obtain ⟨y0, y1, y2, y3, y4, y5, y6⟩ := Z1.c7
    obtain ⟨z0, z1, z2, z3, z4, z5, z6⟩ := Z2.c7
    have l0 := Z0.lt
    have l1 := Z1.lt
    have l2 := Z2.lt
    go_wp2_with fail
    have U0 : CfAt ((V1.setCell ⟨W.heap.size + 1, 2, none⟩ (.int .i64 (c.cp + 1))).setCell ⟨W.heap.size, 3, none⟩ (.int .i64 (c.he + 1))) w.heap.size c := Blk.set_other (Blk.set_other Z0 (by simp; omega) _) (by simp; omega) _
    have U1 : CfAt ((V1.setCell ⟨W.heap.size + 1, 2, none⟩ (.int .i64 (c.cp + 1))).setCell ⟨W.heap.size, 3, none⟩ (.int .i64 (c.he + 1))) (W.heap.size + 1) c.cap := Blk.set_other (Blk.set Z2 2 _) (by simp) _
    have U2 : CfAt ((V1.setCell ⟨W.heap.size + 1, 2, none⟩ (.int .i64 (c.cp + 1))).setCell ⟨W.heap.size, 3, none⟩ (.int .i64 (c.he + 1))) (W.heap.size) c.high := Blk.set (Blk.set_other Z1 (by simp) _) 3 _
    have G3 : Gr w ((V1.setCell ⟨W.heap.size + 1, 2, none⟩ (.int .i64 (c.cp + 1))).setCell ⟨W.heap.size, 3, none⟩ (.int .i64 (c.he + 1))) := (G2.setCell (by simp; omega) _).setCell (by simp; omega) _
    generalize ((V1.setCell ⟨W.heap.size + 1, 2, none⟩ (.int .i64 (c.cp + 1))).setCell ⟨W.heap.size, 3, none⟩ (.int .i64 (c.he + 1))) = V2 at *
    clear x0 x1 x2 x3 x4 x5 x6 y0 y1 y2 y3 y4 y5 y6 z0 z1 z2 z3 z4 z5 z6 f0 f1 Z0 Z1 Z2 l0 l1 l2 G2 G1 G0 X HS hlt
    have hne : Nonempty (St (Gr V2)) := ⟨⟨V2, Gr.refl _⟩⟩
    obtain ⟨x0, x1, x2, x3, x4, x5, x6⟩ := U0.st
    refine wp_region_inv (Gr V2) (by kernel_rfl) (by kernel_rfl) (Gr.refl V2).drew ?_
    repeat (go_big_quiet_step (first | (go_at_call 21; (with_reducible exact Calls.st_gr (HX.out _))) | (go_at_call 20; (with_reducible exact Calls.st_gr (HP.out _)))))
    refine wpQuiet_nil ?_
    rintro V3 ⟨⟨_, g3⟩, rfl⟩
    clear x0 x1 x2 x3 x4 x5 x6 hne
    have hne : Nonempty (St (Gr V3)) := ⟨⟨V3, Gr.refl _⟩⟩
    obtain ⟨x0, x1, x2, x3, x4, x5, x6⟩ := (U0.gr g3).st
    obtain ⟨y0, y1, y2, y3, y4, y5, y6⟩ := (U1.gr g3).st
    obtain ⟨z0, z1, z2, z3, z4, z5, z6⟩ := (U2.gr g3).st
    have G4 := G3.trans g3
    clear U0 U1 U2 G3 g3
    go_wp2_with fail
    refine wp_region_inv (Gr V3) (by kernel_rfl) (by kernel_rfl) (Gr.refl V3).drew ?_
    repeat (go_big_quiet_step (first | (go_at_call 15; (with_reducible exact Calls.st_gr (alive_given _))) | (go_at_call 21; first | (with_reducible exact Calls.st_gr (HX2.out _)) | (with_reducible exact Calls.st_gr (HX3.out _))) | (go_at_call 20; first | (with_reducible exact Calls.st_gr (HP2.out _)) | (with_reducible exact Calls.st_gr (HP3.out _))) | (go_at_call 18; first | (with_reducible exact Calls.st_gr (HL.out _)) | (with_reducible exact Calls.st_gr (HL2.out _)) | (with_reducible exact Calls.st_gr (HL3.out _)))))
    refine wpQuiet_nil ?_
    rintro V4 ⟨⟨_, g4⟩, rfl⟩
    go_wp2_with fail
    go_ret
    exact ⟨rfl, Gr.trans G4 g4⟩

set_option maxRecDepth 100000 in
set_option maxHeartbeats 8000000 in
theorem more_yes (c : Cf) (a b : Int) (w : World) (h1 : c.cp < 64) (h2 : c.he < 6) (h3 : c.Ok) (h4 : 0 ≤ c.cel a b) :
    Calls Try.prog 8 #[.agg #[.int .i64 c.th, .int .i64 c.sl, .int .i64 c.cp, .int .i64 c.he, .int .i64 c.ke, .int .i64 c.ev, .int .i64 c.la], .int .i64 a, .int .i64 b] w fun e w' => e = .returned (.bool true) ∧ Below w.heap.size w w' := by
  have hr := right_any c
  have hx := cell_any c a b
  have hp := reserved_any c a b
  have hp2 := reserved_any c.cap a b
  have hp3 := reserved_any c.high a b
  have hl := len_any c
  have hl2 := len_any c.cap
  have hl3 := len_any c.high
  rw [decide_eq_true h3] at hr
  rw [more_res_cap c h3 h1] at hp2
  rw [more_res_high c h3 h2] at hp3
  rw [more_len_cap c h3 h1] at hl2
  rw [more_len_high c h3 h2] at hl3
  have hx2 := cell_any c.cap a b
  have hx3 := cell_any c.high a b
  rw [more_cel_cap c h3 h1 a b h4] at hx2
  rw [more_cel_high c h3 h2 a b h4] at hx3
  obtain ⟨ha0, ha1, ha2⟩ := more_a c a b h4
  have hdx : decide (c.cel a b < 0) = false := by simpa using h4
  have hxa : IntKind.i64.wrap (c.cel a b + a) = c.cel a b + a := by rw [IntKind.wrap_i64]; omega
  generalize hxe : c.cel a b = x at *
  obtain ⟨b0, b1, b2, b3, b4, b5⟩ := c.bounds h3
  have hcl := c.cells_ok h3
  have hcp := h3.2.2.2.2.1
  have hhe := h3.2.2.2.2.2.2.1
  have hl0 : 0 ≤ c.cells := by omega
  have hl1 : c.cells ≤ 1000 := by omega
  have hs1 : IntKind.i64.wrap (c.cells + c.cp) = c.cells + c.cp := by rw [IntKind.wrap_i64]; omega
  have hs2 : IntKind.i64.wrap (c.cells + c.cp + 1) = c.cells + c.cp + 1 := by rw [IntKind.wrap_i64]; omega
  have hs3 : decide (c.cells < c.cells + c.fields) = true := by simp; omega
  unfold Cf.val at hr hx hx2 hx3 hp hp2 hp3 hl hl2 hl3
  generalize c.res a b = p at *
  generalize c.cells = L at *
  generalize c.fields = fe at *
  have HR := hid hr
  have HX := hid hx
  have HX2 := hid hx2
  have HX3 := hid hx3
  have HP := hid hp
  have HP2 := hid hp2
  have HP3 := hid hp3
  have HL := hid hl
  have HL2 := hid hl2
  have HL3 := hid hl3
  have HE := hid hcl
  have HE2 := hid hxe
  clear hr hx hx2 hx3 hp hp2 hp3 hl hl2 hl3 hcl hxe h3 b0 b1 b4 b5
  go_enter Try.func8, Try.ntmps8
  go_wp2_with fail
  have X : CfAt (w.alloc (.cells #[.int .i64 c.th, .int .i64 c.sl, .int .i64 c.cp, .int .i64 c.he, .int .i64 c.ke, .int .i64 c.ev, .int .i64 c.la] 23)) w.heap.size c := Blk.new _ _ _
  have G0 : Gr w (w.alloc (.cells #[.int .i64 c.th, .int .i64 c.sl, .int .i64 c.cp, .int .i64 c.he, .int .i64 c.ke, .int .i64 c.ev, .int .i64 c.la] 23)) := (Gr.refl w).alloc _
  have hs : (w.alloc (.cells #[.int .i64 c.th, .int .i64 c.sl, .int .i64 c.cp, .int .i64 c.he, .int .i64 c.ke, .int .i64 c.ev, .int .i64 c.la] 23)).heap.size = w.heap.size + 1 := by simp
  obtain ⟨x0, x1, x2, x3, x4, x5, x6⟩ := X.c7
  generalize (w.alloc (.cells #[.int .i64 c.th, .int .i64 c.sl, .int .i64 c.cp, .int .i64 c.he, .int .i64 c.ke, .int .i64 c.ev, .int .i64 c.la] 23)) = W at *
  have HS := hid hs
  have hlt : w.heap.size < W.heap.size := by omega
  clear hs
  go_region
  all_goals
    have Y0 : CfAt (((W.alloc (.cells #[.int .i64 c.th, .int .i64 c.sl, .int .i64 c.cp, .int .i64 c.he, .int .i64 c.ke, .int .i64 c.ev, .int .i64 c.la] 23)).alloc (.cells #[.int .i64 c.th, .int .i64 c.sl, .int .i64 c.cp, .int .i64 c.he, .int .i64 c.ke, .int .i64 c.ev, .int .i64 c.la] 23)).drew) w.heap.size c := Blk.gr X ((((Gr.refl W).alloc _).alloc _).drew)
    have Y1 : CfAt (((W.alloc (.cells #[.int .i64 c.th, .int .i64 c.sl, .int .i64 c.cp, .int .i64 c.he, .int .i64 c.ke, .int .i64 c.ev, .int .i64 c.la] 23)).alloc (.cells #[.int .i64 c.th, .int .i64 c.sl, .int .i64 c.cp, .int .i64 c.he, .int .i64 c.ke, .int .i64 c.ev, .int .i64 c.la] 23)).drew) W.heap.size c := Blk.gr ((Blk.new _ _ _).alloc _) ((Gr.refl _).drew)
    have Y2 : CfAt (((W.alloc (.cells #[.int .i64 c.th, .int .i64 c.sl, .int .i64 c.cp, .int .i64 c.he, .int .i64 c.ke, .int .i64 c.ev, .int .i64 c.la] 23)).alloc (.cells #[.int .i64 c.th, .int .i64 c.sl, .int .i64 c.cp, .int .i64 c.he, .int .i64 c.ke, .int .i64 c.ev, .int .i64 c.la] 23)).drew) (W.heap.size + 1) c := Blk.gr (Blk.new' (by simp)) ((Gr.refl _).drew)
    have G1 : Gr w (((W.alloc (.cells #[.int .i64 c.th, .int .i64 c.sl, .int .i64 c.cp, .int .i64 c.he, .int .i64 c.ke, .int .i64 c.ev, .int .i64 c.la] 23)).alloc (.cells #[.int .i64 c.th, .int .i64 c.sl, .int .i64 c.cp, .int .i64 c.he, .int .i64 c.ke, .int .i64 c.ev, .int .i64 c.la] 23)).drew) := G0.trans ((((Gr.refl W).alloc _).alloc _).drew)
    clear x0 x1 x2 x3 x4 x5 x6
    obtain ⟨x0, x1, x2, x3, x4, x5, x6⟩ := Y0.c7
    generalize (((W.alloc (.cells #[.int .i64 c.th, .int .i64 c.sl, .int .i64 c.cp, .int .i64 c.he, .int .i64 c.ke, .int .i64 c.ev, .int .i64 c.la] 23)).alloc (.cells #[.int .i64 c.th, .int .i64 c.sl, .int .i64 c.cp, .int .i64 c.he, .int .i64 c.ke, .int .i64 c.ev, .int .i64 c.la] 23)).drew) = V at *
  · go_wp2_with fail
    refine (HR.out _).mono ?_
    rintro e V1 ⟨rfl, g1⟩
    have G2 : Gr w V1 := G1.trans g1
    have Z0 : CfAt V1 w.heap.size c := Y0.gr g1
    have Z1 : CfAt V1 W.heap.size c := Y1.gr g1
    have Z2 : CfAt V1 (W.heap.size + 1) c := Y2.gr g1
    have f0 := fun i => Blk.free Z1 i
    have f1 := fun i => Blk.free Z2 i
    clear x0 x1 x2 x3 x4 x5 x6 Y0 Y1 Y2 g1
    obtain ⟨x0, x1, x2, x3, x4, x5, x6⟩ := Z0.c7
    obtain ⟨y0, y1, y2, y3, y4, y5, y6⟩ := Z1.c7
    obtain ⟨z0, z1, z2, z3, z4, z5, z6⟩ := Z2.c7
    have l0 := Z0.lt
    have l1 := Z1.lt
    have l2 := Z2.lt
    go_wp2_with fail
    have U0 : CfAt ((V1.setCell ⟨W.heap.size, 2, none⟩ (.int .i64 (c.cp + 1))).setCell ⟨W.heap.size + 1, 3, none⟩ (.int .i64 (c.he + 1))) w.heap.size c := Blk.set_other (Blk.set_other Z0 (by simp; omega) _) (by simp; omega) _
    have U1 : CfAt ((V1.setCell ⟨W.heap.size, 2, none⟩ (.int .i64 (c.cp + 1))).setCell ⟨W.heap.size + 1, 3, none⟩ (.int .i64 (c.he + 1))) (W.heap.size) c.cap := Blk.set_other (Blk.set Z1 2 _) (by simp) _
    have U2 : CfAt ((V1.setCell ⟨W.heap.size, 2, none⟩ (.int .i64 (c.cp + 1))).setCell ⟨W.heap.size + 1, 3, none⟩ (.int .i64 (c.he + 1))) (W.heap.size + 1) c.high := Blk.set (Blk.set_other Z2 (by simp) _) 3 _
    have G3 : Gr w ((V1.setCell ⟨W.heap.size, 2, none⟩ (.int .i64 (c.cp + 1))).setCell ⟨W.heap.size + 1, 3, none⟩ (.int .i64 (c.he + 1))) := (G2.setCell (by simp; omega) _).setCell (by simp; omega) _
    generalize ((V1.setCell ⟨W.heap.size, 2, none⟩ (.int .i64 (c.cp + 1))).setCell ⟨W.heap.size + 1, 3, none⟩ (.int .i64 (c.he + 1))) = V2 at *
    clear x0 x1 x2 x3 x4 x5 x6 y0 y1 y2 y3 y4 y5 y6 z0 z1 z2 z3 z4 z5 z6 f0 f1 Z0 Z1 Z2 l0 l1 l2 G2 G1 G0 X HS hlt
    have hne : Nonempty (St (Gr V2)) := ⟨⟨V2, Gr.refl _⟩⟩
    obtain ⟨x0, x1, x2, x3, x4, x5, x6⟩ := U0.st
    refine wp_region_inv (Gr V2) (by kernel_rfl) (by kernel_rfl) (Gr.refl V2).drew ?_
    repeat (go_big_quiet_step (first | (go_at_call 21; (with_reducible exact Calls.st_gr (HX.out _))) | (go_at_call 20; (with_reducible exact Calls.st_gr (HP.out _)))))
    refine wpQuiet_nil ?_
    rintro V3 ⟨⟨_, g3⟩, rfl⟩
    clear x0 x1 x2 x3 x4 x5 x6 hne
    have hne : Nonempty (St (Gr V3)) := ⟨⟨V3, Gr.refl _⟩⟩
    obtain ⟨x0, x1, x2, x3, x4, x5, x6⟩ := (U0.gr g3).st
    obtain ⟨y0, y1, y2, y3, y4, y5, y6⟩ := (U1.gr g3).st
    obtain ⟨z0, z1, z2, z3, z4, z5, z6⟩ := (U2.gr g3).st
    have G4 := G3.trans g3
    clear U0 U1 U2 G3 g3
    go_wp2_with fail
    refine wp_region_inv (Gr V3) (by kernel_rfl) (by kernel_rfl) (Gr.refl V3).drew ?_
    repeat (go_big_quiet_step (first | (go_at_call 15; (with_reducible exact Calls.st_gr (alive_given _))) | (go_at_call 21; first | (with_reducible exact Calls.st_gr (HX2.out _)) | (with_reducible exact Calls.st_gr (HX3.out _))) | (go_at_call 20; first | (with_reducible exact Calls.st_gr (HP2.out _)) | (with_reducible exact Calls.st_gr (HP3.out _))) | (go_at_call 18; first | (with_reducible exact Calls.st_gr (HL.out _)) | (with_reducible exact Calls.st_gr (HL2.out _)) | (with_reducible exact Calls.st_gr (HL3.out _)))))
    refine wpQuiet_nil ?_
    rintro V4 ⟨⟨_, g4⟩, rfl⟩
    go_wp2_with fail
    go_ret
    exact ⟨rfl, Gr.trans G4 g4⟩
  · go_wp2_with fail
    refine (HR.out _).mono ?_
    rintro e V1 ⟨rfl, g1⟩
    have G2 : Gr w V1 := G1.trans g1
    have Z0 : CfAt V1 w.heap.size c := Y0.gr g1
    have Z1 : CfAt V1 W.heap.size c := Y1.gr g1
    have Z2 : CfAt V1 (W.heap.size + 1) c := Y2.gr g1
    have f0 := fun i => Blk.free Z1 i
    have f1 := fun i => Blk.free Z2 i
    clear x0 x1 x2 x3 x4 x5 x6 Y0 Y1 Y2 g1
    obtain ⟨x0, x1, x2, x3, x4, x5, x6⟩ := Z0.c7
    obtain ⟨y0, y1, y2, y3, y4, y5, y6⟩ := Z1.c7
    obtain ⟨z0, z1, z2, z3, z4, z5, z6⟩ := Z2.c7
    have l0 := Z0.lt
    have l1 := Z1.lt
    have l2 := Z2.lt
    go_wp2_with fail
    have U0 : CfAt ((V1.setCell ⟨W.heap.size + 1, 2, none⟩ (.int .i64 (c.cp + 1))).setCell ⟨W.heap.size, 3, none⟩ (.int .i64 (c.he + 1))) w.heap.size c := Blk.set_other (Blk.set_other Z0 (by simp; omega) _) (by simp; omega) _
    have U1 : CfAt ((V1.setCell ⟨W.heap.size + 1, 2, none⟩ (.int .i64 (c.cp + 1))).setCell ⟨W.heap.size, 3, none⟩ (.int .i64 (c.he + 1))) (W.heap.size + 1) c.cap := Blk.set_other (Blk.set Z2 2 _) (by simp) _
    have U2 : CfAt ((V1.setCell ⟨W.heap.size + 1, 2, none⟩ (.int .i64 (c.cp + 1))).setCell ⟨W.heap.size, 3, none⟩ (.int .i64 (c.he + 1))) (W.heap.size) c.high := Blk.set (Blk.set_other Z1 (by simp) _) 3 _
    have G3 : Gr w ((V1.setCell ⟨W.heap.size + 1, 2, none⟩ (.int .i64 (c.cp + 1))).setCell ⟨W.heap.size, 3, none⟩ (.int .i64 (c.he + 1))) := (G2.setCell (by simp; omega) _).setCell (by simp; omega) _
    generalize ((V1.setCell ⟨W.heap.size + 1, 2, none⟩ (.int .i64 (c.cp + 1))).setCell ⟨W.heap.size, 3, none⟩ (.int .i64 (c.he + 1))) = V2 at *
    clear x0 x1 x2 x3 x4 x5 x6 y0 y1 y2 y3 y4 y5 y6 z0 z1 z2 z3 z4 z5 z6 f0 f1 Z0 Z1 Z2 l0 l1 l2 G2 G1 G0 X HS hlt
    have hne : Nonempty (St (Gr V2)) := ⟨⟨V2, Gr.refl _⟩⟩
    obtain ⟨x0, x1, x2, x3, x4, x5, x6⟩ := U0.st
    refine wp_region_inv (Gr V2) (by kernel_rfl) (by kernel_rfl) (Gr.refl V2).drew ?_
    repeat (go_big_quiet_step (first | (go_at_call 21; (with_reducible exact Calls.st_gr (HX.out _))) | (go_at_call 20; (with_reducible exact Calls.st_gr (HP.out _)))))
    refine wpQuiet_nil ?_
    rintro V3 ⟨⟨_, g3⟩, rfl⟩
    clear x0 x1 x2 x3 x4 x5 x6 hne
    have hne : Nonempty (St (Gr V3)) := ⟨⟨V3, Gr.refl _⟩⟩
    obtain ⟨x0, x1, x2, x3, x4, x5, x6⟩ := (U0.gr g3).st
    obtain ⟨y0, y1, y2, y3, y4, y5, y6⟩ := (U1.gr g3).st
    obtain ⟨z0, z1, z2, z3, z4, z5, z6⟩ := (U2.gr g3).st
    have G4 := G3.trans g3
    clear U0 U1 U2 G3 g3
    go_wp2_with fail
    refine wp_region_inv (Gr V3) (by kernel_rfl) (by kernel_rfl) (Gr.refl V3).drew ?_
    repeat (go_big_quiet_step (first | (go_at_call 15; (with_reducible exact Calls.st_gr (alive_given _))) | (go_at_call 21; first | (with_reducible exact Calls.st_gr (HX2.out _)) | (with_reducible exact Calls.st_gr (HX3.out _))) | (go_at_call 20; first | (with_reducible exact Calls.st_gr (HP2.out _)) | (with_reducible exact Calls.st_gr (HP3.out _))) | (go_at_call 18; first | (with_reducible exact Calls.st_gr (HL.out _)) | (with_reducible exact Calls.st_gr (HL2.out _)) | (with_reducible exact Calls.st_gr (HL3.out _)))))
    refine wpQuiet_nil ?_
    rintro V4 ⟨⟨_, g4⟩, rfl⟩
    go_wp2_with fail
    go_ret
    exact ⟨rfl, Gr.trans G4 g4⟩

theorem planMore_walk (c : Cf) (a b : Int) (w : World) :
    Calls Try.prog 8 #[.agg #[.int .i64 c.th, .int .i64 c.sl, .int .i64 c.cp, .int .i64 c.he, .int .i64 c.ke, .int .i64 c.ev, .int .i64 c.la], .int .i64 a, .int .i64 b] w fun e w' => e = .returned (.bool true) ∧ Below w.heap.size w w' := by
  by_cases h1 : c.cp < 64
  · by_cases h2 : c.he < 6
    · by_cases h3 : c.Ok
      · by_cases h4 : 0 ≤ c.cel a b
        · exact more_yes c a b w h1 h2 h3 h4
        · exact more_no c a b w h1 h2 h3 h4
      · exact more_wrong c a b w h1 h2 h3
    · exact more_high c a b w h1 (by omega)
  · exact more_cap c a b w (by omega)
end Go.Proofs.YthbkncklliiooaaH
