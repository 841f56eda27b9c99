/-
  The walks of help's end, and of the words' making.
-/
import Derived.Test.YthbkncklliiooaaHh
import Derived.Test.YthbkncklliiooaaQx18
namespace Go.Proofs.YthbkncklliiooaaH
set_option linter.unusedVariables false
set_option linter.unusedSimpArgs false
open Go.RowKit

theorem hMk_u64 {a : Int} (h : U64 a) : U64 (hMk a) := by
  unfold hMk hM
  obtain ⟨h0, h1⟩ := h
  by_cases k : decide (a / 4611686018427387904 % 2 = 1) = true
  · rw [if_pos k]; exact ⟨h0, h1⟩
  · rw [if_neg k]
    simp only [decide_eq_true_eq] at k
    exact ⟨by omega, by omega⟩

theorem swapTo_u64 {o v had : Int} (h : U64 had) (hv : U64 v) : U64 (swapTo o v had) := by
  unfold swapTo
  by_cases k : had = o
  · rw [if_pos k]; exact hv
  · rw [if_neg k]; exact h

theorem wd_set {B : Bk} (h : B.Wd) {n : Nat} {v : Int} (hv : U64 v) (kind via had : Int) (is : Bool) : (B.done kind n via had v is).Wd := by
  intro x hx
  rcases List.mem_or_eq_of_mem_set hx with hx | rfl
  · exact h x hx
  · exact hv
theorem wd_load {B : Bk} (h : B.Wd) (x y : Int) : (B.load x y).Wd := by
  unfold Bk.load
  by_cases k : B.has x = true
  · rw [if_pos k]; exact wd_set h (Bk.get_u64 h x) _ _ _ _
  · rw [if_neg k]; exact h
theorem wd_swap {B : Bk} (h : B.Wd) (x y o v : Int) (hv : U64 v) : (B.swap x y o v).Wd := by
  unfold Bk.swap
  by_cases k : B.has x = true
  · rw [if_pos k]; exact wd_set h (swapTo_u64 (Bk.get_u64 h x) hv) _ _ _ _
  · rw [if_neg k]; exact h
theorem wd_store {B : Bk} (h : B.Wd) (x y v : Int) (hv : U64 v) : (B.store x y v).Wd := by
  unfold Bk.store
  by_cases k : B.has x = true
  · rw [if_pos k]; exact wd_set h hv _ _ _ _
  · rw [if_neg k]; exact h

theorem down_fit {H : HS} (h : H.Fit) (hl : H.st = .next ∨ H.st = .mark) : H.down.Fit := by
  refine ⟨h.h, h.s, ?_, ?_⟩
  · intro k
    show 0 ≤ H.lv - 1
    by_cases hd : H.lv - 1 < 0
    · rw [show H.down.st = .done from if_pos hd] at k
      rcases k with k | k <;> cases k
    · omega
  · show H.lv - 1 ≤ 10
    have := h.hi
    omega

theorem topLv_bounds (c : Cf) (hc : c.Ok) (n : Int) : 0 ≤ topLv c n ∧ topLv c n < c.he := by
  have h1 : 1 ≤ c.he := hc.2.2.2.2.2.2.1
  unfold topLv
  omega

theorem step_fit (c : Cf) (hc : c.Ok) {H : HS} {B : Bk} (h : H.Fit) (hB : B.Wd) : (H.step c B).1.Fit := by
  cases hst : H.st with
  | done => rw [show H.step c B = (H, B) by simp only [HS.step, hst]]; exact h
  | tall =>
    rw [show (H.step c B).1 = ⟨.next, H.h, H.s, topLv c (B.load (c.cel (hI H.h) 4) (hPl H.h)).last.old⟩ by simp only [HS.step, hst]]
    obtain ⟨t0, t1⟩ := topLv_bounds c hc (B.load (c.cel (hI H.h) 4) (hPl H.h)).last.old
    have he : c.he ≤ 6 := hc.2.2.2.2.2.2.2.1
    exact ⟨h.h, h.s, fun _ => t0, by show topLv c _ ≤ 10; omega⟩
  | next =>
    have hl := h.lo (.inl hst)
    have hu := load_old_u64 hB (c.cel (hI H.h) (6 + H.lv)) (hPl H.h)
    rw [show (H.step c B).1 = (if hM (B.load (c.cel (hI H.h) (6 + H.lv)) (hPl H.h)).last.old = true then HS.down ⟨.next, H.h, (B.load (c.cel (hI H.h) (6 + H.lv)) (hPl H.h)).last.old, H.lv⟩ else ⟨.mark, H.h, (B.load (c.cel (hI H.h) (6 + H.lv)) (hPl H.h)).last.old, H.lv⟩) by simp only [HS.step, hst]]
    split
    · exact down_fit ⟨h.h, hu, fun _ => hl, h.hi⟩ (.inl rfl)
    · exact ⟨h.h, hu, fun _ => hl, h.hi⟩
  | mark =>
    have hl := h.lo (.inr hst)
    rw [show (H.step c B).1 = (if (B.swap (c.cel (hI H.h) (6 + H.lv)) (hPl H.h) H.s (hMk H.s)).last.done = true then HS.down H else ⟨.next, H.h, H.s, H.lv⟩) by simp only [HS.step, hst]]
    split
    · exact down_fit h (.inr hst)
    · exact ⟨h.h, h.s, fun _ => hl, h.hi⟩

theorem step_wd (c : Cf) {H : HS} {B : Bk} (h : H.Fit) (hB : B.Wd) : (H.step c B).2.Wd := by
  cases hst : H.st with
  | done => rw [show H.step c B = (H, B) by simp only [HS.step, hst]]; exact hB
  | tall => rw [show (H.step c B).2 = B.load (c.cel (hI H.h) 4) (hPl H.h) by simp only [HS.step, hst]]; exact wd_load hB _ _
  | next => rw [show (H.step c B).2 = B.load (c.cel (hI H.h) (6 + H.lv)) (hPl H.h) by simp only [HS.step, hst]]; exact wd_load hB _ _
  | mark => rw [show (H.step c B).2 = B.swap (c.cel (hI H.h) (6 + H.lv)) (hPl H.h) H.s (hMk H.s) by simp only [HS.step, hst]]; exact wd_swap hB _ _ _ _ (hMk_u64 h.s)

theorem new_fit {h : Int} (hh : U64 h) : (HS.new h).Fit := ⟨hh, ⟨(by show (0 : Int) ≤ 0; omega), (by show (0 : Int) < _; omega)⟩, (fun k => by rcases k with k | k <;> cases k), (by show (0 : Int) ≤ 10; omega)⟩

/-- To the end, or so many steps: how many there were, and what is behind them. -/
def endsf (c : Cf) : Nat → HS → Bk → Nat × HS × Bk
  | 0, H, B => (0, H, B)
  | k + 1, H, B => if H.st = .done then (0, H, B) else ((endsf c k (H.step c B).1 (H.step c B).2).1 + 1, (endsf c k (H.step c B).1 (H.step c B).2).2)

set_option maxRecDepth 100000 in
set_option maxHeartbeats 1000000 in
theorem ends_any (a m p q : Nat) (c : Cf) (hc : c.Ok) (H : HS) (B : Bk) (w : World) (M : Nat) (hM : M ≤ 1000) (hH : IsHelp w a H) (hm : IsMem w m p q c B) (h1 : a ≠ m) (h2 : a ≠ p) (h3 : a ≠ q) (hF : H.Fit) (hB : B.Wd) :
    Calls Try.prog 32 #[.pointer (some ⟨a, 0, none⟩), .pointer (some ⟨m, 0, none⟩), .int .i64 (M : Int)] w fun e w' => e = .returned (.int .i64 ((endsf c M H B).1 : Nat)) ∧ IsHelp w' a (endsf c M H B).2.1 ∧ IsMem w' m p q c (endsf c M H B).2.2 ∧ Chg (Tri a p q) w w' := by
  have HH := hid hH
  have HM := hid hm
  have HF := hid hF
  have HB := hid hB
  have HC := hid hc
  clear hH hm hF hB hc
  go_enter Try.func32, Try.ntmps32
  go_wp2_with fail
  go_loopw [9] (fun i wr => ∃ (k : Nat) (H' : HS) (B' : Bk), k ≤ M ∧ i = .int .i64 (k : Int) ∧ IsHelp wr a H' ∧ IsMem wr m p q c B' ∧ Chg (Tri a p q) w wr ∧ H'.Fit ∧ B'.Wd ∧ endsf c M H B = (k + (endsf c (M - k) H' B').1, (endsf c (M - k) H' B').2)) (fun i _ => M - (intOf i).toNat)
  case atStart => exact ⟨0, H, B, Nat.zero_le _, rfl, HH.out, HM.out, Chg.refl _ _, HF.out, HB.out, by simp⟩
  case round =>
    obtain ⟨k, H', B', hk, rfl, hH, hm, hg, hF, hB, he⟩ := hrel
    have HE := hid he
    clear he
    by_cases hlt : k < M
    · have hlt' : (k : Int) < M := by omega
      by_cases hd : H'.st = .done
      · have hdo := hdone_yes a H' _ hH hd
        have h5 := hid hH
        have h6 := hid hm
        have h7 := hid hg
        have HD := hid hd
        have HDO := hid hdo
        clear hH hm hg hF hB hd hdo
        go_wp2_with fail
        refine HDO.out.mono ?_
        rintro e w1 ⟨rfl, rfl⟩
        go_wp2_with fail
        go_ret
        have e2 : endsf c (M - k) H' B' = (0, H', B') := by
          obtain ⟨j, hj⟩ : ∃ j, M - k = j + 1 := ⟨M - k - 1, by omega⟩
          rw [hj]
          exact if_pos HD.out
        have e1 := HE.out
        rw [e2] at e1
        rw [e1]
        exact ⟨rfl, h5.out, h6.out, h7.out⟩
      · have hdo := hdone_no a H' _ hH hd
        have hs := hstep_any a m p q c HC.out H' B' _ hH hm h1 h2 h3 hF hB
        have F2 := hid (step_fit c HC.out hF hB)
        have W2 := hid (step_wd c hF hB)
        have h7 := hid hg
        have HD := hid hd
        have HDO := hid hdo
        have HS' := hid hs
        clear hH hm hg hF hB hd hdo hs
        go_wp2_with fail
        refine HDO.out.mono ?_
        rintro e w1 ⟨rfl, rfl⟩
        go_wp2_with fail
        refine HS'.out.mono ?_
        rintro e w2 ⟨rfl, g1, g2, g3⟩
        have g1 := hid g1
        have g2 := hid g2
        have g3 := hid g3
        go_wp2_with fail
        go_roundw
        case rel =>
          refine ⟨k + 1, _, _, by omega, by go_num, g1.out, g2.out, Chg.trans h7.out g3.out, F2.out, W2.out, ?_⟩
          have e2 : endsf c (M - k) H' B' = ((endsf c (M - (k + 1)) (H'.step c B').1 (H'.step c B').2).1 + 1, (endsf c (M - (k + 1)) (H'.step c B').1 (H'.step c B').2).2) := by
            obtain ⟨j, hj⟩ : ∃ j, M - k = j + 1 := ⟨M - k - 1, by omega⟩
            rw [hj, show M - (k + 1) = j by omega]
            exact if_neg HD.out
          rw [HE.out, e2]
          simp only [Prod.mk.injEq, and_true]
          omega
        case measure => simp [intOf]; omega
    · have hge : ¬ (k : Int) < M := by omega
      have h5 := hid hH
      have h6 := hid hm
      have h7 := hid hg
      clear hH hm hg hF hB
      go_wp2_with fail
      go_ret
      have hkM : k = M := by omega
      subst hkM
      have e1 := HE.out
      rw [Nat.sub_self] at e1
      rw [e1]
      exact ⟨rfl, h5.out, h6.out, h7.out⟩

/-- New words of a world. -/
def MadeMem (w : World) (c : Cf) (l : List Int) (e : Ending) (w' : World) : Prop :=
  ∃ m p q : Nat, e = .returned (.tuple #[.pointer (some ⟨m, 0, none⟩), .int .i64 0]) ∧ IsMem w' m p q c ⟨l, 0, Acc.zero⟩ ∧ Gr w w' ∧ w.heap.size ≤ m ∧ w.heap.size ≤ p ∧ w.heap.size ≤ q

theorem words_len {w : World} {v : Value} {l : List Int} (h : Words w v l) : ∃ (A : Option Addr) (cap : Nat), v = .slice A l.length cap := by
  rcases h with ⟨rfl, rfl⟩ | ⟨a, cap, rfl, _, _⟩
  · exact ⟨none, 0, rfl⟩
  · exact ⟨some a, cap, rfl⟩

set_option maxRecDepth 100000 in
set_option maxHeartbeats 4000000 in
theorem mof_any (c : Cf) (hc : c.Ok) (v : Value) (l : List Int) (w : World) (hv : Words w v l) (hl : (l.length : Int) = c.cells) :
    Calls Try.prog 37 #[c.val, v] w (MadeMem w c l) := by
  have hcb : c.cells ≤ 1000 := by
    obtain ⟨b0, b1, b2, b3, b4, b5⟩ := c.bounds hc
    have := c.cells_ok hc
    omega
  have hr := right_any c
  have hn := len_any c
  rw [decide_eq_true hc] at hr
  rw [← hl] at hn hcb
  obtain ⟨A, cap, ev⟩ := words_len hv
  subst ev
  have HV := hid hv
  have HC := hid hc
  have HL := hid hl
  unfold Cf.val at *
  have HR := hid hr
  have HN := hid hn
  clear hv hc hl hr hn
  go_enter Try.func37, Try.ntmps37
  go_wp2_with fail
  refine (HR.out _).mono ?_
  rintro e w1 ⟨rfl, g1⟩
  have X1 : Blk w1 w.heap.size #[.int .i64 c.th, .int .i64 c.sl, .int .i64 c.cp, .int .i64 c.he, .int .i64 c.ke, .int .i64 c.ev, .int .i64 c.la] 23 := Blk.gr (Blk.new _ _ _) g1
  have G1 := hid ((Gr.refl w).alloc _ |>.trans g1 : Gr w w1)
  have x0 := X1.cell (i := 0) rfl
  have x1 := X1.cell (i := 1) rfl
  have x2 := X1.cell (i := 2) rfl
  have x3 := X1.cell (i := 3) rfl
  have x4 := X1.cell (i := 4) rfl
  have x5 := X1.cell (i := 5) rfl
  have x6 := X1.cell (i := 6) rfl
  have AX := hid X1
  clear X1 g1
  go_wp2_with fail
  refine (HN.out _).mono ?_
  rintro e w2 ⟨rfl, g2⟩
  have X2 := AX.out.gr g2
  have G2 := hid (Gr.trans G1.out g2)
  have W2 := hid (HV.out.gr (Gr.trans G1.out g2))
  have AX2 := hid X2
  clear x0 x1 x2 x3 x4 x5 x6 X2 g2
  go_wp2_with fail
  refine wp_region_anyC (n := 8) (Gr w2) (by kernel_rfl) rfl ?_
  refine anyC_quiet (a1 := ?a1) (by kernel_rfl) 5 [0, 1, 2] _ _ _ (by kernel_rfl) (by kernel_rfl) (Gr.refl w2).drew ?_ ?_
  rotate_left
  · intro w' g'
    have hne : Nonempty (St (· = w')) := ⟨⟨w', rfl⟩⟩
    have X3 := AX2.out.gr g'
    have y0 : ∀ s : St (· = w'), s.val.cell? ⟨w.heap.size, 0, none⟩ = some (.int .i64 c.th) := fun s => by rw [s.ok]; exact X3.cell rfl
    have y1 : ∀ s : St (· = w'), s.val.cell? ⟨w.heap.size, 1, none⟩ = some (.int .i64 c.sl) := fun s => by rw [s.ok]; exact X3.cell rfl
    have y2 : ∀ s : St (· = w'), s.val.cell? ⟨w.heap.size, 2, none⟩ = some (.int .i64 c.cp) := fun s => by rw [s.ok]; exact X3.cell rfl
    have y3 : ∀ s : St (· = w'), s.val.cell? ⟨w.heap.size, 3, none⟩ = some (.int .i64 c.he) := fun s => by rw [s.ok]; exact X3.cell rfl
    have y4 : ∀ s : St (· = w'), s.val.cell? ⟨w.heap.size, 4, none⟩ = some (.int .i64 c.ke) := fun s => by rw [s.ok]; exact X3.cell rfl
    have y5 : ∀ s : St (· = w'), s.val.cell? ⟨w.heap.size, 5, none⟩ = some (.int .i64 c.ev) := fun s => by rw [s.ok]; exact X3.cell rfl
    have y6 : ∀ s : St (· = w'), s.val.cell? ⟨w.heap.size, 6, none⟩ = some (.int .i64 c.la) := fun s => by rw [s.ok]; exact X3.cell rfl
    clear X3 g'
    conv => arg 5; simp only [picked, List.filterMap_cons, List.filterMap_nil, List.getElem?_toArray, List.getElem?_cons_zero, List.getElem?_cons_succ]
    show wpQuiet _ _ _ _ [_, _, _] _
    repeat (go_big_quiet_step (fail))
    refine wpQuiet_nil ?_
    rfl
  refine anyC_alone 3 (Gr.refl w2).drew (by kernel_rfl) (by kernel_rfl) ?_
  conv => arg 4; simp only [picked, List.filterMap_cons, List.filterMap_nil, List.getElem?_toArray, List.getElem?_cons_zero, List.getElem?_cons_succ]
  show wpList _ _ _ [_] _ _
  go_wp2_with fail
  refine (of_any _ l w2.drew (W2.out.gr (Gr.refl w2).drew) (by omega)).mono ?_
  rintro e w3 ⟨p, q, rfl, hb, g3, hp, hq⟩
  have HB := hid hb
  have G3 := hid (Gr.trans (Gr.refl w2).drew g3)
  have hp' : w2.heap.size ≤ p := hp
  have hq' : w2.heap.size ≤ q := hq
  have hp3 : p < w3.heap.size := hb.head.lt
  have hq3 : q < w3.heap.size := hb.row.lt
  clear hb g3 hp hq
  go_wp2_with fail
  refine ⟨G3.out, ?_⟩
  refine anyC_alone 4 G3.out (by kernel_rfl) (by kernel_rfl) ?_
  conv => arg 4; simp only [picked, List.filterMap_cons, List.filterMap_nil, List.getElem?_toArray, List.getElem?_cons_zero, List.getElem?_cons_succ]
  show wpList _ _ _ [_] _ _
  go_wp2_with fail
  refine ⟨G3.out, ?_⟩
  refine anyC_alone 5 G3.out (by kernel_rfl) (by kernel_rfl) ?_
  conv => arg 4; simp only [picked, List.filterMap_cons, List.filterMap_nil, List.getElem?_toArray, List.getElem?_cons_zero, List.getElem?_cons_succ]
  show wpList _ _ _ [_] _ _
  go_wp2_with fail
  refine ⟨G3.out.alloc _, ?_⟩
  refine anyC_alone 6 (G3.out.alloc _) (by kernel_rfl) (by kernel_rfl) ?_
  conv => arg 4; simp only [picked, List.filterMap_cons, List.filterMap_nil, List.getElem?_toArray, List.getElem?_cons_zero, List.getElem?_cons_succ]
  show wpList _ _ _ [_] _ _
  go_wp2_with fail
  refine ⟨G3.out.alloc _, ?_⟩
  refine anyC_alone 7 (G3.out.alloc _) (by kernel_rfl) (by kernel_rfl) ?_
  conv => arg 4; simp only [picked, List.filterMap_cons, List.filterMap_nil, List.getElem?_toArray, List.getElem?_cons_zero, List.getElem?_cons_succ]
  show wpList _ _ _ [_] _ _
  go_wp2_with fail
  refine ⟨G3.out.alloc _, by kernel_rfl, ?_⟩
  go_wp2_with fail
  go_ret2
  have s2 : w.heap.size ≤ w2.heap.size := G2.out.size
  have s3 : w2.heap.size ≤ w3.heap.size := G3.out.size
  exact ⟨w3.heap.size, p, q, rfl, ⟨Blk.new _ _ _, HB.out.gr ((Gr.refl _).alloc _), by omega, by omega⟩, (Gr.trans G2.out G3.out).alloc _, by omega, by omega, by omega⟩
end Go.Proofs.YthbkncklliiooaaH

namespace Go.Proofs.YthbkncklliiooaaH
set_option linter.unusedVariables false
set_option linter.unusedSimpArgs false
open Go.RowKit Go.Proofs.YthbkncklliiooaaW.PrintWords Go.Proofs.YthbkncklliiooaaW.PrintLast Go.Proofs.YthbkncklliiooaaW.PrintMore Go.Proofs.Ythbkncklliiooaa.Q

theorem c_of_words {w : World} {v : Value} {l : List Int} (h : Words w v l) (hl : l.length ≤ 17592186044416) : ∃ (A : Option Addr) (cap : Nat), v = .slice A l.length cap ∧ l.length ≤ cap ∧ Kd.C (Kd.int .u64) w A l.length l := by
  rcases h with ⟨rfl, rfl⟩ | ⟨a, cap, rfl, hc, hcell⟩
  · exact ⟨none, 0, rfl, Nat.le_refl _, rfl, by simp, fun k => by simp at k⟩
  · exact ⟨some a, cap, rfl, hc, Kd.C_of_reads (d := (0 : Int)) (h1 := fun _ => rfl) ⟨rfl, by omega, fun _ => ⟨a, rfl, fun j hj => hcell j hj⟩⟩⟩

theorem row_words {w : World} {base : Nat} {ok : Nat → Prop} {v : Value} {l : List Int} (h : Kd.R (Kd.int .u64) 40 w base ok v l) (hl : 0 < l.length) :
    ∃ (q cap : Nat), v = .slice (some ⟨q, 0, none⟩) l.length cap ∧ base ≤ q ∧ q < w.heap.size ∧ Words w v l := by
  obtain ⟨_, inner, ⟨_, h1⟩, h2, h3⟩ := h
  rcases h1 with ⟨_, h1⟩ | ⟨g, cap, cur, rfl, hb, hg, hn, hm, hs, ht⟩
  · omega
  · refine ⟨g, cap, rfl, hb, lt_of_block hg, .inr ⟨⟨g, 0, none⟩, cap, rfl, hn, fun i hi => ?_⟩⟩
    have h4 := h3 i _ (List.getElem?_eq_getElem hi)
    have hin : i < inner.length := by rw [h2]; show i < l.length * 1; omega
    have h5 : inner[i]? = some (.int .u64 l[i]) := by
      have h6 : (inner.drop (i * 1)).take 1 = [.int .u64 l[i]] := h4
      rw [Nat.mul_one, List.drop_eq_getElem_cons hin] at h6
      rw [List.getElem?_eq_getElem hin]
      simp only [List.take_succ_cons, List.take_zero, List.cons.injEq, and_true] at h6
      rw [h6]
    have h7 : cur[i]? = some (.int .u64 l[i]) := by
      rw [← ht] at h5
      rw [List.getElem?_take] at h5
      split at h5
      · simpa using h5
      · cases h5
    have h8 : w.cell? ⟨g, i, none⟩ = some (.int .u64 l[i]) := by simp [World.cell?, hg, h7]
    have h9 : l.getD i 0 = l[i] := by simp [List.getD, hi]
    rw [h9]
    by_cases h0 : i = 0
    · subst h0; simpa [Addr.add] using h8
    · simpa [Addr.add, h0] using h8

theorem Words.chg {F : Nat → Prop} {w w' : World} {v : Value} {l : List Int} (h : Words w v l) (g : Chg F w w') (hf : ∀ a n c, v = .slice (some a) n c → ¬ F a.block) : Words w' v l := by
  rcases h with h | ⟨a, cap, e, hc, h⟩
  · exact .inl h
  · exact .inr ⟨a, cap, e, hc, fun i hi => g.cell (h i hi) (by have := hf a _ _ e; simpa [Addr.add, apply_ite] using this)⟩

def zeroMem : Value := .agg #[.int .i64 0, .int .i64 0, .int .i64 0, .int .i64 0, .int .i64 0, .int .i64 0, .int .i64 0, .slice none 0 0, .int .i64 0, .int .i64 0, .int .i64 0, .int .u64 0, .int .u64 0, .int .u64 0, .bool false]
/-- The reference's words, as a value. -/
def refMem (c : Cf) (v : Value) (n : Int) (a : Acc) : Value := .agg #[.int .i64 c.th, .int .i64 c.sl, .int .i64 c.cp, .int .i64 c.he, .int .i64 c.ke, .int .i64 c.ev, .int .i64 c.la, v, .int .i64 n, .int .i64 a.kind, .int .i64 a.cell, .int .u64 a.via, .int .u64 a.old, .int .u64 a.new, .bool a.done]

theorem r05of_any (c : Cf) (v : Value) (l : List Int) (w : World) (hv : Words w v l) (hl : l.length ≤ 1000) :
    Calls Try.prog 55 #[c.val, v] w fun e w' => ∃ u : Value, e = .returned (refMem c u 0 Acc.zero) ∧ Kd.R (Kd.int .u64) 40 w' w.heap.size (fun _ => True) u l ∧ Gr w w' := by
  obtain ⟨A, cap, rfl, hc, hk⟩ := c_of_words hv (by omega)
  have hf : stepstoneref05_Of.f c.th c.sl c.cp c.he c.ke c.ev c.la l = some (c.th, c.sl, c.cp, c.he, c.ke, c.ev, c.la, l, 0, 0, 0, 0, 0, 0, false) := by
    unfold stepstoneref05_Of.f stepstoneref03_Of.f
    simp only [Option.bind_some, List.nil_append, List.length_nil]
    rw [if_pos (by omega)]
    rfl
  exact stepstoneref05_Of.calls c.th c.sl c.cp c.he c.ke c.ev c.la A cap l c.th c.sl c.cp c.he c.ke c.ev c.la l 0 0 0 0 0 0 false w hk hc hf

/-- Is there such a world? -/
def There (c : Cf) (l : List Int) : Prop := c.Ok ∧ (l.length : Int) = c.cells ∧ (l.length : Int) ≤ 400
instance (c : Cf) (l : List Int) : Decidable (There c l) := by unfold There; infer_instance

set_option maxRecDepth 100000 in
set_option maxHeartbeats 4000000 in
theorem lof_wrong (c : Cf) (A : Option Addr) (cap : Nat) (l : List Int) (w : World) (h1 : ¬ c.Ok) :
    Calls Try.prog 27 #[c.val, .slice A l.length cap] w fun e w' => e = .returned (.tuple #[.pointer none, zeroMem, .bool false]) ∧ Gr w w' := by
  have hr := ref_right_any c
  have hn := ref_len_any c
  rw [decide_eq_false h1] at hr
  unfold Cf.val at *
  have HR := hid hr
  clear hr hn h1
  go_enter Try.func27, Try.ntmps27
  go_wp2_with fail
  refine (HR.out _).mono ?_
  rintro e w1 ⟨rfl, g1⟩
  have X1 : Blk w1 w.heap.size #[.int .i64 c.th, .int .i64 c.sl, .int .i64 c.cp, .int .i64 c.he, .int .i64 c.ke, .int .i64 c.ev, .int .i64 c.la] 23 := Blk.gr ((Blk.new _ _ _).alloc _) g1
  have X2 : Blk w1 (w.heap.size + 1) #[.int .i64 0, .int .i64 0, .int .i64 0, .int .i64 0, .int .i64 0, .int .i64 0, .int .i64 0, .slice none 0 0, .int .i64 0, .int .i64 0, .int .i64 0, .int .u64 0, .int .u64 0, .int .u64 0, .bool false] 50 := Blk.gr (Blk.new' (by simp)) g1
  have G1 := hid (Gr.trans (((Gr.refl w).alloc _).alloc _) g1 : Gr w w1)
  have AX1 := hid X1
  have AX2 := hid X2
  clear X1 X2 g1
  have r0 := (AX2.out).cell (i := 0) rfl
  have r1 := (AX2.out).cell (i := 1) rfl
  have r2 := (AX2.out).cell (i := 2) rfl
  have r3 := (AX2.out).cell (i := 3) rfl
  have r4 := (AX2.out).cell (i := 4) rfl
  have r5 := (AX2.out).cell (i := 5) rfl
  have r6 := (AX2.out).cell (i := 6) rfl
  have r7 := (AX2.out).cell (i := 7) rfl
  have r8 := (AX2.out).cell (i := 8) rfl
  have r9 := (AX2.out).cell (i := 9) rfl
  have r10 := (AX2.out).cell (i := 10) rfl
  have r11 := (AX2.out).cell (i := 11) rfl
  have r12 := (AX2.out).cell (i := 12) rfl
  have r13 := (AX2.out).cell (i := 13) rfl
  have r14 := (AX2.out).cell (i := 14) rfl
  have rf : ∀ i, w1.frozen? ⟨w.heap.size + 1, i, none⟩ = false := fun i => AX2.out.free i
  have rl := AX2.out.lt
  go_wp2_with fail
  refine bodyPost_ret (v := .tuple #[.pointer none, zeroMem, .bool false]) (by simp [results, Try.results27, go_sem, rl, r0, r1, r2, r3, r4, r5, r6, r7, r8, r9, r10, r11, r12, r13, r14, zeroMem]) rfl ⟨rfl, ?_⟩
  repeat (refine Gr.setCell ?_ (by simp) _)
  exact G1.out

set_option maxRecDepth 100000 in
set_option maxHeartbeats 4000000 in
theorem lof_other (c : Cf) (A : Option Addr) (cap : Nat) (l : List Int) (w : World) (h1 : c.Ok) (h2 : (l.length : Int) ≠ c.cells) :
    Calls Try.prog 27 #[c.val, .slice A l.length cap] w fun e w' => e = .returned (.tuple #[.pointer none, zeroMem, .bool false]) ∧ Gr w w' := by
  have hr := ref_right_any c
  have hn := ref_len_any c
  rw [decide_eq_true h1] at hr
  have h3 : ((l.length : Int) != c.cells) = true := by simpa using h2
  unfold Cf.val at *
  generalize c.cells = N at *
  have HR := hid hr
  have HN := hid hn
  clear hr hn h1
  go_enter Try.func27, Try.ntmps27
  go_wp2_with fail
  refine (HR.out _).mono ?_
  rintro e w1 ⟨rfl, g1⟩
  have X1 : Blk w1 w.heap.size #[.int .i64 c.th, .int .i64 c.sl, .int .i64 c.cp, .int .i64 c.he, .int .i64 c.ke, .int .i64 c.ev, .int .i64 c.la] 23 := Blk.gr ((Blk.new _ _ _).alloc _) g1
  have X2 : Blk w1 (w.heap.size + 1) #[.int .i64 0, .int .i64 0, .int .i64 0, .int .i64 0, .int .i64 0, .int .i64 0, .int .i64 0, .slice none 0 0, .int .i64 0, .int .i64 0, .int .i64 0, .int .u64 0, .int .u64 0, .int .u64 0, .bool false] 50 := Blk.gr (Blk.new' (by simp)) g1
  have G1 := hid (Gr.trans (((Gr.refl w).alloc _).alloc _) g1 : Gr w w1)
  have AX1 := hid X1
  have AX2 := hid X2
  clear X1 X2 g1
  have x0 := (AX1.out).cell (i := 0) rfl
  have x1 := (AX1.out).cell (i := 1) rfl
  have x2 := (AX1.out).cell (i := 2) rfl
  have x3 := (AX1.out).cell (i := 3) rfl
  have x4 := (AX1.out).cell (i := 4) rfl
  have x5 := (AX1.out).cell (i := 5) rfl
  have x6 := (AX1.out).cell (i := 6) rfl
  go_wp2_with fail
  refine (HN.out _).mono ?_
  rintro e w2 ⟨rfl, g2⟩
  have X1 := AX1.out.gr g2
  have X2 := AX2.out.gr g2
  clear x0 x1 x2 x3 x4 x5 x6
  have G2 := hid (Gr.trans G1.out g2)
  clear AX1 AX2 G1
  have AX1 := hid X1
  have AX2 := hid X2
  have G1 := hid G2.out
  clear X1 X2 G2 g2
  have r0 := (AX2.out).cell (i := 0) rfl
  have r1 := (AX2.out).cell (i := 1) rfl
  have r2 := (AX2.out).cell (i := 2) rfl
  have r3 := (AX2.out).cell (i := 3) rfl
  have r4 := (AX2.out).cell (i := 4) rfl
  have r5 := (AX2.out).cell (i := 5) rfl
  have r6 := (AX2.out).cell (i := 6) rfl
  have r7 := (AX2.out).cell (i := 7) rfl
  have r8 := (AX2.out).cell (i := 8) rfl
  have r9 := (AX2.out).cell (i := 9) rfl
  have r10 := (AX2.out).cell (i := 10) rfl
  have r11 := (AX2.out).cell (i := 11) rfl
  have r12 := (AX2.out).cell (i := 12) rfl
  have r13 := (AX2.out).cell (i := 13) rfl
  have r14 := (AX2.out).cell (i := 14) rfl
  have rf : ∀ i, w2.frozen? ⟨w.heap.size + 1, i, none⟩ = false := fun i => AX2.out.free i
  have rl := AX2.out.lt
  go_wp2_with fail
  refine bodyPost_ret (v := .tuple #[.pointer none, zeroMem, .bool false]) (by simp [results, Try.results27, go_sem, rl, r0, r1, r2, r3, r4, r5, r6, r7, r8, r9, r10, r11, r12, r13, r14, zeroMem]) rfl ⟨rfl, ?_⟩
  repeat (refine Gr.setCell ?_ (by simp) _)
  exact G1.out

set_option maxRecDepth 100000 in
set_option maxHeartbeats 4000000 in
theorem lof_long (c : Cf) (A : Option Addr) (cap : Nat) (l : List Int) (w : World) (h1 : c.Ok) (h2 : (l.length : Int) = c.cells) (h3 : 400 < (l.length : Int)) :
    Calls Try.prog 27 #[c.val, .slice A l.length cap] w fun e w' => e = .returned (.tuple #[.pointer none, zeroMem, .bool false]) ∧ Gr w w' := by
  have hr := ref_right_any c
  have hn := ref_len_any c
  rw [decide_eq_true h1] at hr
  rw [← h2] at hn
  unfold Cf.val at *
  have HR := hid hr
  have HN := hid hn
  clear hr hn h1 h2
  go_enter Try.func27, Try.ntmps27
  go_wp2_with fail
  refine (HR.out _).mono ?_
  rintro e w1 ⟨rfl, g1⟩
  have X1 : Blk w1 w.heap.size #[.int .i64 c.th, .int .i64 c.sl, .int .i64 c.cp, .int .i64 c.he, .int .i64 c.ke, .int .i64 c.ev, .int .i64 c.la] 23 := Blk.gr ((Blk.new _ _ _).alloc _) g1
  have X2 : Blk w1 (w.heap.size + 1) #[.int .i64 0, .int .i64 0, .int .i64 0, .int .i64 0, .int .i64 0, .int .i64 0, .int .i64 0, .slice none 0 0, .int .i64 0, .int .i64 0, .int .i64 0, .int .u64 0, .int .u64 0, .int .u64 0, .bool false] 50 := Blk.gr (Blk.new' (by simp)) g1
  have G1 := hid (Gr.trans (((Gr.refl w).alloc _).alloc _) g1 : Gr w w1)
  have AX1 := hid X1
  have AX2 := hid X2
  clear X1 X2 g1
  have x0 := (AX1.out).cell (i := 0) rfl
  have x1 := (AX1.out).cell (i := 1) rfl
  have x2 := (AX1.out).cell (i := 2) rfl
  have x3 := (AX1.out).cell (i := 3) rfl
  have x4 := (AX1.out).cell (i := 4) rfl
  have x5 := (AX1.out).cell (i := 5) rfl
  have x6 := (AX1.out).cell (i := 6) rfl
  go_wp2_with fail
  refine (HN.out _).mono ?_
  rintro e w2 ⟨rfl, g2⟩
  have X1 := AX1.out.gr g2
  have X2 := AX2.out.gr g2
  clear x0 x1 x2 x3 x4 x5 x6
  have G2 := hid (Gr.trans G1.out g2)
  clear AX1 AX2 G1
  have AX1 := hid X1
  have AX2 := hid X2
  have G1 := hid G2.out
  clear X1 X2 G2 g2
  have r0 := (AX2.out).cell (i := 0) rfl
  have r1 := (AX2.out).cell (i := 1) rfl
  have r2 := (AX2.out).cell (i := 2) rfl
  have r3 := (AX2.out).cell (i := 3) rfl
  have r4 := (AX2.out).cell (i := 4) rfl
  have r5 := (AX2.out).cell (i := 5) rfl
  have r6 := (AX2.out).cell (i := 6) rfl
  have r7 := (AX2.out).cell (i := 7) rfl
  have r8 := (AX2.out).cell (i := 8) rfl
  have r9 := (AX2.out).cell (i := 9) rfl
  have r10 := (AX2.out).cell (i := 10) rfl
  have r11 := (AX2.out).cell (i := 11) rfl
  have r12 := (AX2.out).cell (i := 12) rfl
  have r13 := (AX2.out).cell (i := 13) rfl
  have r14 := (AX2.out).cell (i := 14) rfl
  have rf : ∀ i, w2.frozen? ⟨w.heap.size + 1, i, none⟩ = false := fun i => AX2.out.free i
  have rl := AX2.out.lt
  go_wp2_with fail
  refine bodyPost_ret (v := .tuple #[.pointer none, zeroMem, .bool false]) (by simp [results, Try.results27, go_sem, rl, r0, r1, r2, r3, r4, r5, r6, r7, r8, r9, r10, r11, r12, r13, r14, zeroMem]) rfl ⟨rfl, ?_⟩
  repeat (refine Gr.setCell ?_ (by simp) _)
  exact G1.out

theorem lof_no (c : Cf) (v : Value) (l : List Int) (w : World) (hv : Words w v l) (h : ¬ There c l) :
    Calls Try.prog 27 #[c.val, v] w fun e w' => e = .returned (.tuple #[.pointer none, zeroMem, .bool false]) ∧ Gr w w' := by
  obtain ⟨A, cap, rfl⟩ := words_len hv
  by_cases h1 : c.Ok
  · by_cases h2 : (l.length : Int) = c.cells
    · exact lof_long c A cap l w h1 h2 (by have : ¬ (l.length : Int) ≤ 400 := fun k => h ⟨h1, h2, k⟩; omega)
    · exact lof_other c A cap l w h1 h2
  · exact lof_wrong c A cap l w h1

/-- The words, and the reference's. -/
def MadeBoth (w : World) (c : Cf) (l : List Int) (e : Ending) (w' : World) : Prop :=
  ∃ (m p q g cap : Nat), e = .returned (.tuple #[.pointer (some ⟨m, 0, none⟩), refMem c (.slice (some ⟨g, 0, none⟩) l.length cap) 0 Acc.zero, .bool true]) ∧ IsMem w' m p q c ⟨l, 0, Acc.zero⟩ ∧ Words w' (.slice (some ⟨g, 0, none⟩) l.length cap) l ∧ Gr w w' ∧
    (w.heap.size ≤ m ∧ w.heap.size ≤ p ∧ w.heap.size ≤ q ∧ w.heap.size ≤ g) ∧ (g ≠ m ∧ g ≠ p ∧ g ≠ q) ∧ g < w'.heap.size

set_option maxRecDepth 100000 in
set_option maxHeartbeats 4000000 in
theorem lof_yes (c : Cf) (v : Value) (l : List Int) (w : World) (hv : Words w v l) (h : There c l) :
    Calls Try.prog 27 #[c.val, v] w (MadeBoth w c l) := by
  obtain ⟨h1, h2, h3⟩ := h
  have hr := ref_right_any c
  have hn := ref_len_any c
  rw [decide_eq_true h1] at hr
  rw [← h2] at hn
  have hpos : 0 < l.length := by
    have := (cells_pos c).2 h1
    omega
  have hm := fun w hv => mof_any c h1 v l w hv h2
  have hb := fun w hv => r05of_any c v l w hv (by omega)
  obtain ⟨A, cap, rfl⟩ := words_len hv
  unfold Cf.val at *
  have HR := hid hr
  have HN := hid hn
  have HM := hid hm
  have HB := hid hb
  have HV := hid hv
  clear hr hn h1 h2 hm hb hv
  go_enter Try.func27, Try.ntmps27
  go_wp2_with fail
  refine (HR.out _).mono ?_
  rintro e w1 ⟨rfl, g1⟩
  have X1 : Blk w1 w.heap.size #[.int .i64 c.th, .int .i64 c.sl, .int .i64 c.cp, .int .i64 c.he, .int .i64 c.ke, .int .i64 c.ev, .int .i64 c.la] 23 := Blk.gr ((Blk.new _ _ _).alloc _) g1
  have X2 : Blk w1 (w.heap.size + 1) #[.int .i64 0, .int .i64 0, .int .i64 0, .int .i64 0, .int .i64 0, .int .i64 0, .int .i64 0, .slice none 0 0, .int .i64 0, .int .i64 0, .int .i64 0, .int .u64 0, .int .u64 0, .int .u64 0, .bool false] 50 := Blk.gr (Blk.new' (by simp)) g1
  have G1 := hid (Gr.trans (((Gr.refl w).alloc _).alloc _) g1 : Gr w w1)
  have AX1 := hid X1
  have AX2 := hid X2
  clear X1 X2 g1
  have x0 := (AX1.out).cell (i := 0) rfl
  have x1 := (AX1.out).cell (i := 1) rfl
  have x2 := (AX1.out).cell (i := 2) rfl
  have x3 := (AX1.out).cell (i := 3) rfl
  have x4 := (AX1.out).cell (i := 4) rfl
  have x5 := (AX1.out).cell (i := 5) rfl
  have x6 := (AX1.out).cell (i := 6) rfl
  go_wp2_with fail
  refine (HN.out _).mono ?_
  rintro e w2 ⟨rfl, g2⟩
  have X1 := AX1.out.gr g2
  have X2 := AX2.out.gr g2
  clear x0 x1 x2 x3 x4 x5 x6
  have G2 := hid (Gr.trans G1.out g2)
  clear AX1 AX2 G1
  have AX1 := hid X1
  have AX2 := hid X2
  have G1 := hid G2.out
  clear X1 X2 G2 g2
  have WV := hid (HV.out.gr G1.out)
  have x0 := (AX1.out).cell (i := 0) rfl
  have x1 := (AX1.out).cell (i := 1) rfl
  have x2 := (AX1.out).cell (i := 2) rfl
  have x3 := (AX1.out).cell (i := 3) rfl
  have x4 := (AX1.out).cell (i := 4) rfl
  have x5 := (AX1.out).cell (i := 5) rfl
  have x6 := (AX1.out).cell (i := 6) rfl
  go_wp2_with fail
  refine (HM.out _ WV.out).mono ?_
  rintro e w3 ⟨m, p, q, rfl, hmm, g3, sm, sp, sq⟩
  have W3 := hid (WV.out.gr g3)
  have X1 := AX1.out.gr g3
  have X2 := AX2.out.gr g3
  have G3 := hid (Gr.trans G1.out g3)
  have MM := hid hmm
  have s2 := G1.out.size
  have s5 := AX2.out.lt
  clear x0 x1 x2 x3 x4 x5 x6 AX1 AX2 g3 hmm
  have AX1 := hid X1
  have AX2 := hid X2
  clear X1 X2
  have x0 := (AX1.out).cell (i := 0) rfl
  have x1 := (AX1.out).cell (i := 1) rfl
  have x2 := (AX1.out).cell (i := 2) rfl
  have x3 := (AX1.out).cell (i := 3) rfl
  have x4 := (AX1.out).cell (i := 4) rfl
  have x5 := (AX1.out).cell (i := 5) rfl
  have x6 := (AX1.out).cell (i := 6) rfl
  go_wp2_with fail
  refine (HB.out _ W3.out).mono ?_
  rintro e w4 ⟨u, rfl, hu, g4⟩
  obtain ⟨g, cap', rfl, sg, sg', wu⟩ := row_words hu hpos
  have M4 := hid (MM.out.gr g4)
  have X2 := AX2.out.gr g4
  have G4 := hid (Gr.trans G3.out g4)
  have WU := hid wu
  have m3 : m < w3.heap.size := MM.out.mem.lt
  have p3 : p < w3.heap.size := MM.out.bank.head.lt
  have q3 : q < w3.heap.size := MM.out.bank.row.lt
  have hbk := mbank_any m p q c ⟨l, 0, Acc.zero⟩ w4 M4.out
  have HBK := hid hbk
  clear x0 x1 x2 x3 x4 x5 x6 AX1 AX2 g4 hu wu hbk
  have AX2 := hid X2
  clear X2
  unfold refMem
  have r0 := (AX2.out).cell (i := 0) rfl
  have r1 := (AX2.out).cell (i := 1) rfl
  have r2 := (AX2.out).cell (i := 2) rfl
  have r3 := (AX2.out).cell (i := 3) rfl
  have r4 := (AX2.out).cell (i := 4) rfl
  have r5 := (AX2.out).cell (i := 5) rfl
  have r6 := (AX2.out).cell (i := 6) rfl
  have r7 := (AX2.out).cell (i := 7) rfl
  have r8 := (AX2.out).cell (i := 8) rfl
  have r9 := (AX2.out).cell (i := 9) rfl
  have r10 := (AX2.out).cell (i := 10) rfl
  have r11 := (AX2.out).cell (i := 11) rfl
  have r12 := (AX2.out).cell (i := 12) rfl
  have r13 := (AX2.out).cell (i := 13) rfl
  have r14 := (AX2.out).cell (i := 14) rfl
  have rf : ∀ i, w4.frozen? ⟨w.heap.size + 1, i, none⟩ = false := fun i => AX2.out.free i
  have rl := AX2.out.lt
  go_wp2_with fail
  refine HBK.out.mono ?_
  rintro e w5 ⟨rfl, rfl⟩
  go_wp2_with fail
  refine bodyPost_ret (v := .tuple #[.pointer (some ⟨m, 0, none⟩), refMem c (.slice (some ⟨g, 0, none⟩) l.length cap') 0 Acc.zero, .bool true]) (by simp [results, Try.results27, go_sem, rl, r0, r1, r2, r3, r4, r5, r6, r7, r8, r9, r10, r11, r12, r13, r14, refMem, Acc.zero]) rfl ⟨m, p, q, g, cap', rfl, ?_, ?_, ?_, ?_, ?_, ?_⟩
  · refine IsMem.chg (F := (· = w.heap.size + 1)) M4.out ?_ (by intro hh; omega) (by intro hh; omega) (by intro hh; omega)
    repeat (refine Chg.setCell (F := (· = w.heap.size + 1)) ?_ (.inl rfl) _)
    exact Chg.refl _ _
  · refine Words.chg (F := (· = w.heap.size + 1)) WU.out ?_ (by rintro a n c' hh; simp only [Value.slice.injEq, Option.some.injEq] at hh; rw [← hh.1]; intro h4; simp only at h4; omega)
    repeat (refine Chg.setCell (F := (· = w.heap.size + 1)) ?_ (.inl rfl) _)
    exact Chg.refl _ _
  · repeat (refine Gr.setCell ?_ (by simp) _)
    exact G4.out
  · exact ⟨by omega, by omega, by omega, by omega⟩
  · exact ⟨by omega, by omega, by omega⟩
  · simpa using sg'
end Go.Proofs.YthbkncklliiooaaH
