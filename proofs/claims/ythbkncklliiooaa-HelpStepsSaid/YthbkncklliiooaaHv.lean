/-
  The words of the small world of the statements of the layer help, laid.
-/
import Derived.Test.YthbkncklliiooaaRd
import Derived.Test.YthbkncklliiooaaHn
import Derived.Test.YthbkncklliiooaaQx19
import Derived.Test.YthbkncklliiooaaHo
namespace Go.Proofs.YthbkncklliiooaaH
set_option linter.unusedVariables false
set_option linter.unusedSimpArgs false
open Go.RowKit Go.Proofs.YthbkncklliiooaaW.PrintWords Go.Proofs.YthbkncklliiooaaW.PrintLast Go.Proofs.YthbkncklliiooaaW.PrintMore Go.Proofs.Ythbkncklliiooaa.Q

def cSmall : Cf := ⟨1, 1, 1, 2, 1, 1, 9⟩
def hOne : Int := 9223372036854775809
def nSmall : S69 := ⟨1, 0, 2, 0, true⟩
def lSmall : List Int := [1, 0, 1, 0, 0, 0, 2, 0, 9223372036854775809, 9223372036854775809, 1, 1, 1, 1, 2, 1, 0, 0]

/-- A row of nodes that was made. -/
theorem c_nodes {w : World} {b : Nat} (hb : Blk w b #[.int .u64 1, .int .u64 0, .int .i64 2, .int .i64 0, .bool true] 69) : Kd.C k69 w (some ⟨b, 0, none⟩) [nSmall].length [nSmall] := by
  refine ⟨rfl, by simp, fun _ => ⟨_, rfl, fun j p hp => ?_⟩⟩
  have hj : j = 0 := by
    have := (List.getElem?_eq_some_iff.1 hp).1
    simpa using this
  subst hj
  have hp' : p = nSmall := by simpa using hp.symm
  subst hp'
  refine ⟨[.int .u64 1, .int .u64 0, .int .i64 2, .int .i64 0, .bool true], rfl, k69_mk w nSmall, fun i u hu => ?_⟩
  have hi : i < 5 := by
    have := (List.getElem?_eq_some_iff.1 hu).1
    simpa using this
  have e : w.cell? ⟨b, i, none⟩ = some u := hb.cell (by simpa using hu)
  by_cases h0 : i = 0
  · subst h0; simpa [Addr.add] using e
  · simpa [Addr.add, h0] using e

theorem wp_at {P : Program} {code : Code} {Q : Exit → Act → World → Prop} {a : Act} {w : World} (I : World → Prop) (h : I w) (k : ∀ W, I W → code.wp P Q a W) : code.wp P Q a w := k w h
theorem calls_at {P : Program} {f : FuncId} {args : Array Value} {Q : Ending → World → Prop} {w : World} (I : World → Prop) (h : I w) (k : ∀ W, I W → Calls P f args W Q) : Calls P f args w Q := k w h
theorem OwnWords.gr {w w' : World} {q cap : Nat} {cur : Array Value} {l : List Int} (h : OwnWords w q cap cur l) (g : Gr w w') : OwnWords w' q cap cur l := ⟨h.blk.gr g, h.size, h.le, h.get⟩
/-- What is laid so far. -/
structure Ls1 (w : World) (xc b q cap : Nat) (l : List Int) (W : World) : Prop where
  c : Blk W xc #[.int .i64 1, .int .i64 1, .int .i64 1, .int .i64 2, .int .i64 1, .int .i64 1, .int .i64 9] 23
  n : Blk W b #[.int .u64 1, .int .u64 0, .int .i64 2, .int .i64 0, .bool true] 69
  o : ∃ cur, OwnWords W q cap cur l
  gr : Gr w W
theorem Ls1.step {w W W' : World} {xc b q cap : Nat} {l : List Int} (h : Ls1 w xc b q cap l W) (g : Gr W W') : Ls1 w xc b q cap l W' :=
  ⟨h.c.gr g, h.n.gr g, h.o.elim fun cur k => ⟨cur, k.gr g⟩, h.gr.trans g⟩
theorem Ls1.put {w W : World} {xc b q cap : Nat} {l : List Int} (h : Ls1 w xc b q cap l W) (n : Nat) (x : Int) (hq : w.heap.size ≤ q) (h1 : xc ≠ q) (h2 : b ≠ q) : Ls1 w xc b q cap (l.set n x) (W.setCell ⟨q, n, none⟩ (.int .u64 x)) :=
  ⟨h.c.set_other h1 _, h.n.set_other h2 _, h.o.elim fun cur k => ⟨_, k.set n x⟩, h.gr.setCell hq _⟩
theorem Ls1.cell {w W : World} {xc b q cap : Nat} {l : List Int} (h : Ls1 w xc b q cap l W) {n : Nat} (hn : n < l.length) : ∃ x, W.cell? ⟨q, n, none⟩ = some (.int .u64 x) := by
  obtain ⟨cur, k⟩ := h.o
  exact ⟨_, k.blk.cell (k.get n hn)⟩
theorem Ls1.lt {w W : World} {xc b q cap : Nat} {l : List Int} (h : Ls1 w xc b q cap l W) : q < W.heap.size := h.o.elim fun _ k => k.blk.lt
theorem Ls1.free {w W : World} {xc b q cap : Nat} {l : List Int} (h : Ls1 w xc b q cap l W) (i : Nat) : W.frozen? ⟨q, i, none⟩ = false := h.o.elim fun _ k => k.blk.free i
def lev : Nat → List Int
  | 0 => [1, 0, 1, 0, 0, 0, 2, 0, 0, 0, 0, 0, 0, 0, 0, 0, 0, 0]
  | 1 => [1, 0, 1, 0, 0, 0, 2, 0, 9223372036854775809, 0, 0, 0, 0, 0, 0, 0, 0, 0]
  | _ => [1, 0, 1, 0, 0, 0, 2, 0, 9223372036854775809, 9223372036854775809, 0, 0, 0, 0, 0, 0, 0, 0]
def mid : List Int := [1, 0, 1, 0, 0, 0, 2, 0, 9223372036854775809, 9223372036854775809, 1, 1, 1, 1, 2, 1, 0, 0]
theorem cel_small (a f : Int) (r : Int) (h : cSmall.cel a f = r) (w : World) : Calls Try.prog 23 #[.agg #[.int .i64 1, .int .i64 1, .int .i64 1, .int .i64 2, .int .i64 1, .int .i64 1, .int .i64 9], .int .i64 a, .int .i64 f] w fun e w' => e = .returned (.int .i64 r) ∧ Gr w w' := by
  rw [← h]
  exact ref_cell_any cSmall a f w
theorem taken_small (w : World) : Calls Try.prog 61 #[.int .i64 0] w fun e w' => e = .returned (.int .u64 1) ∧ Gr w w' :=
  (stepstoneref02_Taken.calls 0 1 w (by decide +kernel)).mono fun e w' hq => ⟨hq.1, by first | exact hq.2 | exact hq.2.below⟩
theorem behind_small {b n : Nat} (hn : 1 ≤ n) (at_ lv r : Int) (h : stepstoneref11_behind.f 9 [nSmall] at_ lv = some r) (w : World) (hb : Blk w b #[.int .u64 1, .int .u64 0, .int .i64 2, .int .i64 0, .bool true] 69) : Calls Try.prog 60 #[.slice (some ⟨b, 0, none⟩) 1 n, .int .i64 at_, .int .i64 lv] w fun e w' => e = .returned (.int .u64 r) ∧ Gr w w' :=
  (stepstoneref11_behind.calls 9 (some ⟨b, 0, none⟩) n [nSmall] at_ lv r w (c_nodes hb) hn h).mono fun e w' hq => ⟨hq.1, by first | exact hq.2 | exact hq.2.below⟩

set_option maxRecDepth 100000 in
set_option maxHeartbeats 4000000 in
theorem lay_call (b : Nat) (w : World) (hb : Blk w b #[.int .u64 1, .int .u64 0, .int .i64 2, .int .i64 0, .bool true] 69) (n : Nat) (hn : 1 ≤ n) :
    Calls Try.prog 38 #[.agg #[.int .i64 1, .int .i64 1, .int .i64 1, .int .i64 2, .int .i64 1, .int .i64 1, .int .i64 9], .slice (some ⟨b, 0, none⟩) 1 n] w fun e w' => ∃ v, e = .returned v ∧ Words w' v lSmall ∧ Gr w w' := by
  have HN := hid hb
  have HC : Hid (∀ w, Calls Try.prog 59 #[.agg #[.int .i64 1, .int .i64 1, .int .i64 1, .int .i64 2, .int .i64 1, .int .i64 1, .int .i64 9]] w _) := hid (r05_given cSmall (by decide))
  have HB := hid (@behind_small b n hn)
  clear hb
  go_enter Try.func38, Try.ntmps38
  go_wp2_with fail
  have G0 := hid ((Gr.refl w).alloc (.cells #[.int .i64 1, .int .i64 1, .int .i64 1, .int .i64 2, .int .i64 1, .int .i64 1, .int .i64 9] 23))
  have AC : Hid (Blk (w.alloc (.cells #[.int .i64 1, .int .i64 1, .int .i64 1, .int .i64 2, .int .i64 1, .int .i64 1, .int .i64 9] 23)) w.heap.size #[.int .i64 1, .int .i64 1, .int .i64 1, .int .i64 2, .int .i64 1, .int .i64 1, .int .i64 9] 23) := hid (Blk.new w #[.int .i64 1, .int .i64 1, .int .i64 1, .int .i64 2, .int .i64 1, .int .i64 1, .int .i64 9] 23)
  generalize (w.alloc (.cells #[.int .i64 1, .int .i64 1, .int .i64 1, .int .i64 2, .int .i64 1, .int .i64 1, .int .i64 9] 23)) = W0 at *
  have cl : w.heap.size < W0.heap.size := AC.out.lt
  generalize hxc : w.heap.size = xc at *
  refine (HC.out _).mono ?_
  rintro e w1 ⟨v, rfl, hr, g1⟩
  have hw0 : cSmall.words0 = lev 0 := by decide
  rw [hw0] at hr
  obtain ⟨qv, cv, rfl, _, _, hwv⟩ := row_words hr (by decide)
  have HV := hid hwv
  have G1 := hid (Gr.trans G0.out g1)
  have BC := hid (Blk.gr AC.out g1)
  have BN := hid (Blk.gr (Blk.gr HN.out G0.out) g1)
  have sz := hid g1.size
  clear hr g1 hwv hw0 AC
  go_wp2_with (with_reducible refine wpList_append_words rfl (.tmp 14) (.tmp 17) 39 rfl Try.underlying39 info40 (w1.heap.size + 1) (lev 0) _ rfl rfl ?c1 ?c2 ?c3 ?_)
  case c1 => exact Blk.new' (by simp)
  case c2 => exact HV.out.gr (((Gr.refl w1).alloc _).alloc _)
  case c3 => decide
  intro q cap cur w2 hq ho hc
  have bl := HN.out.lt
  have QX : Hid (w.heap.size ≤ q ∧ xc ≠ q ∧ b ≠ q ∧ xc = w.heap.size) := hid (by have := sz.out; have := cl; exact ⟨by omega, by omega, by omega, hxc.symm⟩)
  have I0 : Hid (Ls1 w xc b q cap (lev 0) w2) := hid ⟨Blk.chg ((BC.out.alloc _).alloc _) hc (by have := sz.out; omega), Blk.chg ((BN.out.alloc _).alloc _) hc (by have := sz.out; omega), ⟨cur, ho.out⟩, Gr.step ((G1.out.alloc _).alloc _) hc (by rintro i rfl; have := sz.out; omega)⟩
  have hxq : xc ≠ q := QX.out.2.1
  clear hq ho hc BC BN sz HV bl cl hxc
  rw [show (lev 0).length = 18 from rfl]
  go_wp2_with fail
  clear hxq
  go_loopw [7] (fun i wr => ∃ k : Nat, k ≤ 2 ∧ i = .int .i64 (k : Int) ∧ Ls1 w xc b q cap (lev k) wr) (fun i _ => 2 - (intOf i).toNat)
  case atStart => exact ⟨0, by omega, rfl, I0.out⟩
  case round =>
    obtain ⟨k, hk, rfl, hin⟩ := hrel
    have hk3 : k = 0 ∨ k = 1 ∨ k = 2 := by omega
    rcases hk3 with rfl | rfl | rfl
    · have SI := hid hin
      clear hin hk
      obtain ⟨x0, x1, x2, x3, x4, x5, x6⟩ := cells7 (SI.out.c)
      go_wp2_with fail
      refine (cel_small 0 6 8 (by decide) _).mono ?_
      rintro e wa ⟨rfl, ga⟩
      have SA := hid (SI.out.step ga)
      clear ga x0 x1 x2 x3 x4 x5 x6
      go_wp2_with fail
      refine (HB.out (-1) 0 9223372036854775809 (by decide +kernel) _ SA.out.n).mono ?_
      rintro e wb ⟨rfl, gb⟩
      have SB := hid (SA.out.step gb)
      clear gb
      obtain ⟨x, hx⟩ := SB.out.cell (n := 8) (by decide)
      have ql := SB.out.lt
      have qf := SB.out.free
      go_wp2_with fail
      go_roundw
      case rel => exact ⟨1, by omega, rfl, SB.out.put 8 9223372036854775809 QX.out.1 QX.out.2.1 QX.out.2.2.1⟩
      case measure => simp [intOf]
    · have SI := hid hin
      clear hin hk
      obtain ⟨x0, x1, x2, x3, x4, x5, x6⟩ := cells7 (SI.out.c)
      go_wp2_with fail
      refine (cel_small 0 7 9 (by decide) _).mono ?_
      rintro e wa ⟨rfl, ga⟩
      have SA := hid (SI.out.step ga)
      clear ga x0 x1 x2 x3 x4 x5 x6
      go_wp2_with fail
      refine (HB.out (-1) 1 9223372036854775809 (by decide +kernel) _ SA.out.n).mono ?_
      rintro e wb ⟨rfl, gb⟩
      have SB := hid (SA.out.step gb)
      clear gb
      obtain ⟨x, hx⟩ := SB.out.cell (n := 9) (by decide)
      have ql := SB.out.lt
      have qf := SB.out.free
      go_wp2_with fail
      go_roundw
      case rel => exact ⟨2, by omega, rfl, SB.out.put 9 9223372036854775809 QX.out.1 QX.out.2.1 QX.out.2.2.1⟩
      case measure => simp [intOf]
    · have SI := hid hin
      clear hin hk
      have x3 := SI.out.c.cell (i := 3) rfl
      go_wp2_with fail
      clear x3
      go_loopw [8] (fun i wr => ∃ k : Nat, k ≤ 1 ∧ i = .int .i64 (k : Int) ∧ Ls1 w xc b q cap (if k = 0 then lev 2 else lSmall) wr) (fun i _ => 1 - (intOf i).toNat)
      case atStart => exact ⟨0, by omega, rfl, SI.out⟩
      case round =>
        obtain ⟨k, hk, rfl, hin⟩ := hrel
        have hk3 : k = 0 ∨ k = 1 := by omega
        rcases hk3 with rfl | rfl
        · simp only [if_true] at hin
          have S0 := hid hin
          clear hin hk
          obtain ⟨n0, n1, n2, n3, n4⟩ := cells5 (S0.out.n)
          obtain ⟨x0, x1, x2, x3, x4, x5, x6⟩ := cells7 (S0.out.c)
          have cl := S0.out.c.lt
          have hwl := S0.out.gr.size
          go_wp2_with fail
          have hqn : q ≠ wr.heap.size := by have := S0.out.lt; omega
          have A1 : Hid (Ls1 w xc b q cap (lev 2) (wr.alloc (.cells #[.int .u64 1, .int .u64 0, .int .i64 2, .int .i64 0, .bool true] 69)) ∧ Blk (wr.alloc (.cells #[.int .u64 1, .int .u64 0, .int .i64 2, .int .i64 0, .bool true] 69)) wr.heap.size #[.int .u64 1, .int .u64 0, .int .i64 2, .int .i64 0, .bool true] 69) := hid ⟨S0.out.step ((Gr.refl wr).alloc _), Blk.new _ _ _⟩
          clear n0 n1 n2 n3 n4 x0 x1 x2 x3 x4 x5 x6 cl hwl
          generalize (wr.alloc (.cells #[.int .u64 1, .int .u64 0, .int .i64 2, .int .i64 0, .bool true] 69)) = wn at *
          generalize wr.heap.size = xn at *
          have hnq : xn ≠ q := fun e => hqn e.symm
          refine (cel_small 1 0 10 (by decide) _).mono ?_
          rintro e w4 ⟨rfl, gw4⟩
          have S3 := hid (And.intro (A1.out.1.step gw4) (Blk.gr A1.out.2 gw4))
          clear gw4
          go_wp2_with fail
          refine (taken_small _).mono ?_
          rintro e w6 ⟨rfl, gw6⟩
          have S5 := hid (And.intro (S3.out.1.step gw6) (Blk.gr S3.out.2 gw6))
          clear gw6
          obtain ⟨x, hx⟩ := S5.out.1.cell (n := 10) (by decide)
          have ql := S5.out.1.lt
          have qf := S5.out.1.free
          go_wp2_with fail
          clear hx ql qf
          refine wp_at (fun W => Ls1 w xc b q cap [1, 0, 1, 0, 0, 0, 2, 0, 9223372036854775809, 9223372036854775809, 1, 0, 0, 0, 0, 0, 0, 0] W ∧ Blk W xn #[.int .u64 1, .int .u64 0, .int .i64 2, .int .i64 0, .bool true] 69) ⟨S5.out.1.put 10 1 QX.out.1 QX.out.2.1 QX.out.2.2.1, S5.out.2.set_other hnq _⟩ ?_
          intro w8 hw8
          have S7 := hid hw8
          clear hw8
          refine wp_region_anyC (n := 9) (fun W => Blk W xc #[.int .i64 1, .int .i64 1, .int .i64 1, .int .i64 2, .int .i64 1, .int .i64 1, .int .i64 9] 23 ∧ Blk W xn #[.int .u64 1, .int .u64 0, .int .i64 2, .int .i64 0, .bool true] 69 ∧ Gr w W) (by kernel_rfl) rfl ?_
          have S9 := hid (And.intro (S7.out.1.step (Gr.refl _).drew) (Blk.drew S7.out.2))
          generalize World.drew _ = wd at *
          have CD := hid (And.intro S9.out.1.c (And.intro S9.out.2 S9.out.1.gr))
          refine anyC_quiet (a1 := ?a1) (by kernel_rfl) 3 [0, 1, 2, 3, 5, 6] _ _ _ (by kernel_rfl) (by kernel_rfl) CD.out ?_ ?_
          rotate_left
          · intro w' g'
            have hne : Nonempty (St (· = w')) := ⟨⟨w', rfl⟩⟩
            have X3 := g'.1
            obtain ⟨u0, u1, u2, u3, u4, u5, u6⟩ := st7 (X3)
            clear X3
            have X3 := g'.2.1
            obtain ⟨y0, y1, y2, y3, y4⟩ := st5 (X3)
            clear X3
            clear g'
            conv => arg 5; simp only [picked, List.filterMap_cons, List.filterMap_nil, List.getElem?_toArray, List.getElem?_cons_zero, List.getElem?_cons_succ]
            show wpQuiet _ _ _ _ [_, _, _, _, _, _] _
            repeat (go_big_quiet_step (fail))
            refine wpQuiet_nil ?_
            rfl
          refine anyC_alone 4 CD.out (by kernel_rfl) (by kernel_rfl) ?_
          conv => arg 4; simp only [picked, List.filterMap_cons, List.filterMap_nil, List.getElem?_toArray, List.getElem?_cons_zero, List.getElem?_cons_succ]
          show wpList _ _ _ [_] _ _
          go_wp2_with fail
          refine (cel_small 1 1 11 (by decide) _).mono ?_
          rintro e w11 ⟨rfl, gw11⟩
          have S10 := hid (And.intro (S9.out.1.step gw11) (Blk.gr S9.out.2 gw11))
          clear gw11
          clear CD
          have CD := hid (And.intro S10.out.1.c (And.intro S10.out.2 S10.out.1.gr))
          go_wp2_with fail
          refine ⟨CD.out, ?_⟩
          refine anyC_quiet (a1 := ?a2) (by kernel_rfl) 1 [7] _ _ _ (by kernel_rfl) (by kernel_rfl) CD.out ?_ ?_
          rotate_left
          · intro w' g'
            have hne : Nonempty (St (· = w')) := ⟨⟨w', rfl⟩⟩
            clear g'
            conv => arg 5; simp only [picked, List.filterMap_cons, List.filterMap_nil, List.getElem?_toArray, List.getElem?_cons_zero, List.getElem?_cons_succ]
            show wpQuiet _ _ _ _ [_] _
            repeat (go_big_quiet_step (fail))
            refine wpQuiet_nil ?_
            rfl
          obtain ⟨x, hx⟩ := S10.out.1.cell (n := 11) (by decide)
          have ql := S10.out.1.lt
          have qf := S10.out.1.free
          refine anyC_alone 8 CD.out (by kernel_rfl) (by kernel_rfl) ?_
          conv => arg 4; simp only [picked, List.filterMap_cons, List.filterMap_nil, List.getElem?_toArray, List.getElem?_cons_zero, List.getElem?_cons_succ]
          show wpList _ _ _ [_] _ _
          go_wp2_with fail
          refine ⟨⟨CD.out.1.set_other (fun e => QX.out.2.1 e) _, CD.out.2.1.set_other hnq _, CD.out.2.2.setCell QX.out.1 _⟩, ?_⟩
          refine ⟨by kernel_rfl, ?_⟩
          clear CD
          go_wp2_with fail
          clear hx ql qf
          refine wp_at (fun W => Ls1 w xc b q cap [1, 0, 1, 0, 0, 0, 2, 0, 9223372036854775809, 9223372036854775809, 1, 1, 0, 0, 0, 0, 0, 0] W ∧ Blk W xn #[.int .u64 1, .int .u64 0, .int .i64 2, .int .i64 0, .bool true] 69) ⟨S10.out.1.put 11 1 QX.out.1 QX.out.2.1 QX.out.2.2.1, S10.out.2.set_other hnq _⟩ ?_
          intro w13 hw13
          have S12 := hid hw13
          clear hw13
          refine wp_region_anyC (n := 10) (fun W => Blk W xc #[.int .i64 1, .int .i64 1, .int .i64 1, .int .i64 2, .int .i64 1, .int .i64 1, .int .i64 9] 23 ∧ Blk W xn #[.int .u64 1, .int .u64 0, .int .i64 2, .int .i64 0, .bool true] 69 ∧ Gr w W) (by kernel_rfl) rfl ?_
          have S14 := hid (And.intro (S12.out.1.step (Gr.refl _).drew) (Blk.drew S12.out.2))
          generalize World.drew _ = wd at *
          have CD := hid (And.intro S14.out.1.c (And.intro S14.out.2 S14.out.1.gr))
          refine anyC_quiet (a1 := ?a3) (by kernel_rfl) 3 [0, 1, 2, 3, 5, 6, 7] _ _ _ (by kernel_rfl) (by kernel_rfl) CD.out ?_ ?_
          rotate_left
          · intro w' g'
            have hne : Nonempty (St (· = w')) := ⟨⟨w', rfl⟩⟩
            have X3 := g'.1
            obtain ⟨u0, u1, u2, u3, u4, u5, u6⟩ := st7 (X3)
            clear X3
            have X3 := g'.2.1
            obtain ⟨y0, y1, y2, y3, y4⟩ := st5 (X3)
            clear X3
            clear g'
            conv => arg 5; simp only [picked, List.filterMap_cons, List.filterMap_nil, List.getElem?_toArray, List.getElem?_cons_zero, List.getElem?_cons_succ]
            show wpQuiet _ _ _ _ [_, _, _, _, _, _, _] _
            repeat (go_big_quiet_step (fail))
            refine wpQuiet_nil ?_
            rfl
          refine anyC_alone 4 CD.out (by kernel_rfl) (by kernel_rfl) ?_
          conv => arg 4; simp only [picked, List.filterMap_cons, List.filterMap_nil, List.getElem?_toArray, List.getElem?_cons_zero, List.getElem?_cons_succ]
          show wpList _ _ _ [_] _ _
          go_wp2_with fail
          refine (cel_small 1 2 12 (by decide) _).mono ?_
          rintro e w16 ⟨rfl, gw16⟩
          have S15 := hid (And.intro (S14.out.1.step gw16) (Blk.gr S14.out.2 gw16))
          clear gw16
          clear CD
          have CD := hid (And.intro S15.out.1.c (And.intro S15.out.2 S15.out.1.gr))
          go_wp2_with fail
          refine ⟨CD.out, ?_⟩
          refine anyC_quiet (a1 := ?a4) (by kernel_rfl) 1 [8] _ _ _ (by kernel_rfl) (by kernel_rfl) CD.out ?_ ?_
          rotate_left
          · intro w' g'
            have hne : Nonempty (St (· = w')) := ⟨⟨w', rfl⟩⟩
            clear g'
            conv => arg 5; simp only [picked, List.filterMap_cons, List.filterMap_nil, List.getElem?_toArray, List.getElem?_cons_zero, List.getElem?_cons_succ]
            show wpQuiet _ _ _ _ [_] _
            repeat (go_big_quiet_step (fail))
            refine wpQuiet_nil ?_
            rfl
          obtain ⟨x, hx⟩ := S15.out.1.cell (n := 12) (by decide)
          have ql := S15.out.1.lt
          have qf := S15.out.1.free
          refine anyC_alone 9 CD.out (by kernel_rfl) (by kernel_rfl) ?_
          conv => arg 4; simp only [picked, List.filterMap_cons, List.filterMap_nil, List.getElem?_toArray, List.getElem?_cons_zero, List.getElem?_cons_succ]
          show wpList _ _ _ [_] _ _
          go_wp2_with fail
          refine ⟨⟨CD.out.1.set_other (fun e => QX.out.2.1 e) _, CD.out.2.1.set_other hnq _, CD.out.2.2.setCell QX.out.1 _⟩, ?_⟩
          refine ⟨by kernel_rfl, ?_⟩
          clear CD
          have y4 := S15.out.2.cell (i := 4) rfl
          go_wp2_with fail
          clear hx ql qf
          refine wp_at (fun W => Ls1 w xc b q cap [1, 0, 1, 0, 0, 0, 2, 0, 9223372036854775809, 9223372036854775809, 1, 1, 0, 0, 0, 0, 0, 0] W ∧ Blk W xn #[.int .u64 1, .int .u64 0, .int .i64 2, .int .i64 0, .bool true] 69) ⟨S15.out.1.put 12 0 QX.out.1 QX.out.2.1 QX.out.2.2.1, S15.out.2.set_other hnq _⟩ ?_
          intro w18 hw18
          have S17 := hid hw18
          clear hw18
          refine wp_region_anyC (n := 11) (fun W => Blk W xc #[.int .i64 1, .int .i64 1, .int .i64 1, .int .i64 2, .int .i64 1, .int .i64 1, .int .i64 9] 23 ∧ Blk W xn #[.int .u64 1, .int .u64 0, .int .i64 2, .int .i64 0, .bool true] 69 ∧ Gr w W) (by kernel_rfl) rfl ?_
          have S19 := hid (And.intro (S17.out.1.step (Gr.refl _).drew) (Blk.drew S17.out.2))
          generalize World.drew _ = wd at *
          have CD := hid (And.intro S19.out.1.c (And.intro S19.out.2 S19.out.1.gr))
          refine anyC_quiet (a1 := ?a5) (by kernel_rfl) 3 [0, 1, 2, 3, 5, 6, 7, 8] _ _ _ (by kernel_rfl) (by kernel_rfl) CD.out ?_ ?_
          rotate_left
          · intro w' g'
            have hne : Nonempty (St (· = w')) := ⟨⟨w', rfl⟩⟩
            have X3 := g'.1
            obtain ⟨u0, u1, u2, u3, u4, u5, u6⟩ := st7 (X3)
            clear X3
            have X3 := g'.2.1
            obtain ⟨y0, y1, y2, y3, y4⟩ := st5 (X3)
            clear X3
            clear g'
            conv => arg 5; simp only [picked, List.filterMap_cons, List.filterMap_nil, List.getElem?_toArray, List.getElem?_cons_zero, List.getElem?_cons_succ]
            show wpQuiet _ _ _ _ [_, _, _, _, _, _, _, _] _
            repeat (go_big_quiet_step (fail))
            refine wpQuiet_nil ?_
            rfl
          refine anyC_alone 4 CD.out (by kernel_rfl) (by kernel_rfl) ?_
          conv => arg 4; simp only [picked, List.filterMap_cons, List.filterMap_nil, List.getElem?_toArray, List.getElem?_cons_zero, List.getElem?_cons_succ]
          show wpList _ _ _ [_] _ _
          go_wp2_with fail
          refine (cel_small 1 2 12 (by decide) _).mono ?_
          rintro e w21 ⟨rfl, gw21⟩
          have S20 := hid (And.intro (S19.out.1.step gw21) (Blk.gr S19.out.2 gw21))
          clear gw21
          clear CD
          have CD := hid (And.intro S20.out.1.c (And.intro S20.out.2 S20.out.1.gr))
          go_wp2_with fail
          refine ⟨CD.out, ?_⟩
          refine anyC_quiet (a1 := ?a6) (by kernel_rfl) 1 [9] _ _ _ (by kernel_rfl) (by kernel_rfl) CD.out ?_ ?_
          rotate_left
          · intro w' g'
            have hne : Nonempty (St (· = w')) := ⟨⟨w', rfl⟩⟩
            clear g'
            conv => arg 5; simp only [picked, List.filterMap_cons, List.filterMap_nil, List.getElem?_toArray, List.getElem?_cons_zero, List.getElem?_cons_succ]
            show wpQuiet _ _ _ _ [_] _
            repeat (go_big_quiet_step (fail))
            refine wpQuiet_nil ?_
            rfl
          obtain ⟨x, hx⟩ := S20.out.1.cell (n := 12) (by decide)
          have ql := S20.out.1.lt
          have qf := S20.out.1.free
          refine anyC_alone 10 CD.out (by kernel_rfl) (by kernel_rfl) ?_
          conv => arg 4; simp only [picked, List.filterMap_cons, List.filterMap_nil, List.getElem?_toArray, List.getElem?_cons_zero, List.getElem?_cons_succ]
          show wpList _ _ _ [_] _ _
          go_wp2_with fail
          refine ⟨⟨CD.out.1.set_other (fun e => QX.out.2.1 e) _, CD.out.2.1.set_other hnq _, CD.out.2.2.setCell QX.out.1 _⟩, ?_⟩
          refine ⟨by kernel_rfl, ?_⟩
          clear CD
          obtain ⟨x0, x1, x2, x3, x4, x5, x6⟩ := cells7 (S20.out.1.c)
          have hxq := QX.out.2.1
          have hqx : q ≠ xc := fun e => hxq e.symm
          go_wp2_with fail
          clear hx ql qf
          refine calls_at (fun W => Ls1 w xc b q cap [1, 0, 1, 0, 0, 0, 2, 0, 9223372036854775809, 9223372036854775809, 1, 1, 1, 0, 0, 0, 0, 0] W ∧ Blk W xn #[.int .u64 1, .int .u64 0, .int .i64 2, .int .i64 0, .bool true] 69) ⟨S20.out.1.put 12 1 QX.out.1 QX.out.2.1 QX.out.2.2.1, S20.out.2.set_other hnq _⟩ ?_
          intro w23 hw23
          have S22 := hid hw23
          clear hw23
          clear x0 x1 x2 x3 x4 x5 x6 hxq hqx
          refine (cel_small 1 3 13 (by decide) _).mono ?_
          rintro e w25 ⟨rfl, gw25⟩
          have S24 := hid (And.intro (S22.out.1.step gw25) (Blk.gr S22.out.2 gw25))
          clear gw25
          obtain ⟨x, hx⟩ := S24.out.1.cell (n := 13) (by decide)
          have ql := S24.out.1.lt
          have qf := S24.out.1.free
          go_wp2_with fail
          clear hx ql qf
          refine wp_at (fun W => Ls1 w xc b q cap [1, 0, 1, 0, 0, 0, 2, 0, 9223372036854775809, 9223372036854775809, 1, 1, 1, 1, 0, 0, 0, 0] W ∧ Blk W xn #[.int .u64 1, .int .u64 0, .int .i64 2, .int .i64 0, .bool true] 69) ⟨S24.out.1.put 13 1 QX.out.1 QX.out.2.1 QX.out.2.2.1, S24.out.2.set_other hnq _⟩ ?_
          intro w27 hw27
          have S26 := hid hw27
          clear hw27
          refine wp_region_anyC (n := 10) (fun W => Blk W xc #[.int .i64 1, .int .i64 1, .int .i64 1, .int .i64 2, .int .i64 1, .int .i64 1, .int .i64 9] 23 ∧ Blk W xn #[.int .u64 1, .int .u64 0, .int .i64 2, .int .i64 0, .bool true] 69 ∧ Gr w W) (by kernel_rfl) rfl ?_
          have S28 := hid (And.intro (S26.out.1.step (Gr.refl _).drew) (Blk.drew S26.out.2))
          generalize World.drew _ = wd at *
          have CD := hid (And.intro S28.out.1.c (And.intro S28.out.2 S28.out.1.gr))
          refine anyC_quiet (a1 := ?a7) (by kernel_rfl) 3 [0, 1, 2, 3, 5, 6, 7] _ _ _ (by kernel_rfl) (by kernel_rfl) CD.out ?_ ?_
          rotate_left
          · intro w' g'
            have hne : Nonempty (St (· = w')) := ⟨⟨w', rfl⟩⟩
            have X3 := g'.1
            obtain ⟨u0, u1, u2, u3, u4, u5, u6⟩ := st7 (X3)
            clear X3
            have X3 := g'.2.1
            obtain ⟨y0, y1, y2, y3, y4⟩ := st5 (X3)
            clear X3
            clear g'
            conv => arg 5; simp only [picked, List.filterMap_cons, List.filterMap_nil, List.getElem?_toArray, List.getElem?_cons_zero, List.getElem?_cons_succ]
            show wpQuiet _ _ _ _ [_, _, _, _, _, _, _] _
            repeat (go_big_quiet_step (fail))
            refine wpQuiet_nil ?_
            rfl
          refine anyC_alone 4 CD.out (by kernel_rfl) (by kernel_rfl) ?_
          conv => arg 4; simp only [picked, List.filterMap_cons, List.filterMap_nil, List.getElem?_toArray, List.getElem?_cons_zero, List.getElem?_cons_succ]
          show wpList _ _ _ [_] _ _
          go_wp2_with fail
          refine (cel_small 1 4 14 (by decide) _).mono ?_
          rintro e w30 ⟨rfl, gw30⟩
          have S29 := hid (And.intro (S28.out.1.step gw30) (Blk.gr S28.out.2 gw30))
          clear gw30
          clear CD
          have CD := hid (And.intro S29.out.1.c (And.intro S29.out.2 S29.out.1.gr))
          go_wp2_with fail
          refine ⟨CD.out, ?_⟩
          refine anyC_quiet (a1 := ?a8) (by kernel_rfl) 1 [8] _ _ _ (by kernel_rfl) (by kernel_rfl) CD.out ?_ ?_
          rotate_left
          · intro w' g'
            have hne : Nonempty (St (· = w')) := ⟨⟨w', rfl⟩⟩
            clear g'
            conv => arg 5; simp only [picked, List.filterMap_cons, List.filterMap_nil, List.getElem?_toArray, List.getElem?_cons_zero, List.getElem?_cons_succ]
            show wpQuiet _ _ _ _ [_] _
            repeat (go_big_quiet_step (fail))
            refine wpQuiet_nil ?_
            rfl
          obtain ⟨x, hx⟩ := S29.out.1.cell (n := 14) (by decide)
          have ql := S29.out.1.lt
          have qf := S29.out.1.free
          refine anyC_alone 9 CD.out (by kernel_rfl) (by kernel_rfl) ?_
          conv => arg 4; simp only [picked, List.filterMap_cons, List.filterMap_nil, List.getElem?_toArray, List.getElem?_cons_zero, List.getElem?_cons_succ]
          show wpList _ _ _ [_] _ _
          go_wp2_with fail
          refine ⟨⟨CD.out.1.set_other (fun e => QX.out.2.1 e) _, CD.out.2.1.set_other hnq _, CD.out.2.2.setCell QX.out.1 _⟩, ?_⟩
          refine ⟨by kernel_rfl, ?_⟩
          clear CD
          obtain ⟨x0, x1, x2, x3, x4, x5, x6⟩ := cells7 (S29.out.1.c)
          have hxq := QX.out.2.1
          have hqx : q ≠ xc := fun e => hxq e.symm
          go_wp2_with fail
          clear hx ql qf
          refine calls_at (fun W => Ls1 w xc b q cap [1, 0, 1, 0, 0, 0, 2, 0, 9223372036854775809, 9223372036854775809, 1, 1, 1, 1, 2, 0, 0, 0] W ∧ Blk W xn #[.int .u64 1, .int .u64 0, .int .i64 2, .int .i64 0, .bool true] 69) ⟨S29.out.1.put 14 2 QX.out.1 QX.out.2.1 QX.out.2.2.1, S29.out.2.set_other hnq _⟩ ?_
          intro w32 hw32
          have S31 := hid hw32
          clear hw32
          clear x0 x1 x2 x3 x4 x5 x6 hxq hqx
          refine (cel_small 1 5 15 (by decide) _).mono ?_
          rintro e w34 ⟨rfl, gw34⟩
          have S33 := hid (And.intro (S31.out.1.step gw34) (Blk.gr S31.out.2 gw34))
          clear gw34
          obtain ⟨x, hx⟩ := S33.out.1.cell (n := 15) (by decide)
          have ql := S33.out.1.lt
          have qf := S33.out.1.free
          go_wp2_with fail
          have I1 : Hid (Ls1 w xc b q cap mid _ ∧ Blk _ xn #[.int .u64 1, .int .u64 0, .int .i64 2, .int .i64 0, .bool true] 69) := hid ⟨S33.out.1.put 15 1 QX.out.1 QX.out.2.1 QX.out.2.2.1, Blk.set_other (a := ⟨q, 15, none⟩) S33.out.2 hnq (.int .u64 1)⟩
          clear hx ql qf
          go_loopw [10] (fun i wr => ∃ j : Nat, j ≤ 2 ∧ i = .int .i64 (j : Int) ∧ Ls1 w xc b q cap mid wr ∧ Blk wr xn #[.int .u64 1, .int .u64 0, .int .i64 2, .int .i64 0, .bool true] 69) (fun i _ => 2 - (intOf i).toNat)
          case atStart => exact ⟨0, by omega, rfl, I1.out⟩
          case round =>
            obtain ⟨j, hj, rfl, hin2⟩ := hrel
            have hj3 : j = 0 ∨ j = 1 ∨ j = 2 := by omega
            have T0 := hid hin2
            clear hin2 hj I1
            have y2 := T0.out.2.cell (i := 2) rfl
            have y3 := T0.out.2.cell (i := 3) rfl
            rcases hj3 with rfl | rfl | rfl
            · go_wp2_with fail
              refine (HB.out 0 0 0 (by decide +kernel) _ T0.out.1.n).mono ?_
              rintro e wa ⟨rfl, ga⟩
              have TA := hid (And.intro (T0.out.1.step ga) (Blk.gr T0.out.2 ga))
              clear ga y2 y3
              have y2 := TA.out.2.cell (i := 2) rfl
              have y3 := TA.out.2.cell (i := 3) rfl
              obtain ⟨x0, x1, x2, x3, x4, x5, x6⟩ := cells7 (TA.out.1.c)
              go_wp2_with fail
              clear y2 y3 x0 x1 x2 x3 x4 x5 x6
              refine (cel_small 1 6 16 (by decide) _).mono ?_
              rintro e wb ⟨rfl, gb⟩
              have TB := hid (And.intro (TA.out.1.step gb) (Blk.gr TA.out.2 gb))
              clear gb
              obtain ⟨x, hx⟩ := TB.out.1.cell (n := 16) (by decide)
              have ql := TB.out.1.lt
              have qf := TB.out.1.free
              go_wp2_with fail
              go_roundw
              case rel => exact ⟨1, by omega, rfl, TB.out.1.put 16 0 QX.out.1 QX.out.2.1 QX.out.2.2.1, TB.out.2.set_other hnq _⟩
              case measure => simp [intOf]
            · go_wp2_with fail
              refine (HB.out 0 1 0 (by decide +kernel) _ T0.out.1.n).mono ?_
              rintro e wa ⟨rfl, ga⟩
              have TA := hid (And.intro (T0.out.1.step ga) (Blk.gr T0.out.2 ga))
              clear ga y2 y3
              have y2 := TA.out.2.cell (i := 2) rfl
              have y3 := TA.out.2.cell (i := 3) rfl
              obtain ⟨x0, x1, x2, x3, x4, x5, x6⟩ := cells7 (TA.out.1.c)
              go_wp2_with fail
              clear y2 y3 x0 x1 x2 x3 x4 x5 x6
              refine (cel_small 1 7 17 (by decide) _).mono ?_
              rintro e wb ⟨rfl, gb⟩
              have TB := hid (And.intro (TA.out.1.step gb) (Blk.gr TA.out.2 gb))
              clear gb
              obtain ⟨x, hx⟩ := TB.out.1.cell (n := 17) (by decide)
              have ql := TB.out.1.lt
              have qf := TB.out.1.free
              go_wp2_with fail
              go_roundw
              case rel => exact ⟨2, by omega, rfl, TB.out.1.put 17 0 QX.out.1 QX.out.2.1 QX.out.2.2.1, TB.out.2.set_other hnq _⟩
              case measure => simp [intOf]
            · go_wp2_with fail
              go_roundw
              case rel =>
                repeat (apply Exists.intro)
                refine ⟨⟨1, by omega, rfl, T0.out.1⟩, ?_⟩
                repeat (first | rfl | (refine ⟨rfl, ?_⟩))
              case measure => simp [intOf]
        · simp only [Nat.one_ne_zero, if_false] at hin
          have S0 := hid hin
          clear hin hk
          go_wp2_with fail
          go_ret
          obtain ⟨cur, ho⟩ := S0.out.o
          exact ⟨_, rfl, ho.words, S0.out.gr⟩
end Go.Proofs.YthbkncklliiooaaH

namespace Go.Proofs.YthbkncklliiooaaH
set_option linter.unusedVariables false
set_option linter.unusedSimpArgs false
open Go.RowKit Go.Proofs.YthbkncklliiooaaW.PrintWords Go.Proofs.YthbkncklliiooaaW.PrintLast Go.Proofs.YthbkncklliiooaaW.PrintMore Go.Proofs.Ythbkncklliiooaa.Q

theorem of_small : stepstoneref01_Of.f 3 1 0 = some hOne := by decide +kernel
theorem ends_small : (endsf cSmall 20 (HS.new hOne) ⟨lSmall, 0, Acc.zero⟩).1 = 5 := by decide +kernel
theorem ends_small2 : (endsf cSmall 20 (HS.new hOne) (endsf cSmall 20 (HS.new hOne) ⟨lSmall, 0, Acc.zero⟩).2.2).1 = 3 := by decide +kernel
def bSmall : Bk := (endsf cSmall 20 (HS.new hOne) (endsf cSmall 20 (HS.new hOne) ⟨lSmall, 0, Acc.zero⟩).2.2).2.2
theorem mark_small : hM (bSmall.load (cSmall.cel (hI hOne) 6) (hPl hOne)).last.old = true := by decide +kernel
theorem mark_small2 : hM ((bSmall.load (cSmall.cel (hI hOne) 6) (hPl hOne)).load (cSmall.cel (hI hOne) 7) (hPl hOne)).last.old = true := by decide +kernel

theorem small_ok : cSmall.Ok := by decide
theorem small_cells : (lSmall.length : Int) = cSmall.cells := by decide
theorem one_u64 : U64 hOne := by unfold hOne; exact ⟨by omega, by omega⟩

theorem endsf_done' {c : Cf} {H : HS} {B : Bk} (hd : H.st = .done) (k : Nat) : endsf c k H B = (0, H, B) := by
  cases k with
  | zero => rfl
  | succ k => exact if_pos hd
theorem ends_pres' {c : Cf} (P : HS → Bk → Prop) (hP : ∀ H B, P H B → P (H.step c B).1 (H.step c B).2) : ∀ k H B, P H B → P (endsf c k H B).2.1 (endsf c k H B).2.2
  | 0, H, B, h => h
  | k + 1, H, B, h => by
    by_cases hd : H.st = .done
    · rw [endsf_done' hd]; exact h
    · rw [show endsf c (k + 1) H B = ((endsf c k (H.step c B).1 (H.step c B).2).1 + 1, (endsf c k (H.step c B).1 (H.step c B).2).2) from if_neg hd]
      exact ends_pres' P hP k _ _ (hP _ _ h)
theorem ends_fw {c : Cf} (hc : c.Ok) (k : Nat) {H : HS} {B : Bk} (hF : H.Fit) (hB : B.Wd) : (endsf c k H B).2.1.Fit ∧ (endsf c k H B).2.2.Wd :=
  ends_pres' (fun H B => H.Fit ∧ B.Wd) (fun _ _ h => ⟨step_fit c hc h.1 h.2, step_wd c h.1 h.2⟩) k H B ⟨hF, hB⟩

theorem wd_small0 : (⟨lSmall, 0, Acc.zero⟩ : Bk).Wd := by unfold Bk.Wd U64 lSmall; decide
theorem wd_small1 : (endsf cSmall 20 (HS.new hOne) ⟨lSmall, 0, Acc.zero⟩).2.2.Wd := (ends_fw small_ok 20 (new_fit one_u64) wd_small0).2
theorem wd_small : bSmall.Wd := (ends_fw small_ok 20 (new_fit one_u64) wd_small1).2

theorem ends_one (a m p q : Nat) (w : World) (hH : IsHelp w a (HS.new hOne)) (hm : IsMem w m p q cSmall ⟨lSmall, 0, Acc.zero⟩) (h1 : a ≠ m) (h2 : a ≠ p) (h3 : a ≠ q) :
    Calls Try.prog 32 #[.pointer (some ⟨a, 0, none⟩), .pointer (some ⟨m, 0, none⟩), .int .i64 20] w fun e w' => e = .returned (.int .i64 5) ∧ IsHelp w' a (endsf cSmall 20 (HS.new hOne) ⟨lSmall, 0, Acc.zero⟩).2.1 ∧ IsMem w' m p q cSmall (endsf cSmall 20 (HS.new hOne) ⟨lSmall, 0, Acc.zero⟩).2.2 ∧ Chg (Tri a p q) w w' := by
  have := ends_any a m p q cSmall small_ok (HS.new hOne) ⟨lSmall, 0, Acc.zero⟩ w 20 (by omega) hH hm h1 h2 h3 (new_fit one_u64) wd_small0
  rw [ends_small] at this
  exact this
theorem ends_two (a m p q : Nat) (w : World) (hH : IsHelp w a (HS.new hOne)) (hm : IsMem w m p q cSmall (endsf cSmall 20 (HS.new hOne) ⟨lSmall, 0, Acc.zero⟩).2.2) (h1 : a ≠ m) (h2 : a ≠ p) (h3 : a ≠ q) :
    Calls Try.prog 32 #[.pointer (some ⟨a, 0, none⟩), .pointer (some ⟨m, 0, none⟩), .int .i64 20] w fun e w' => e = .returned (.int .i64 3) ∧ IsHelp w' a (endsf cSmall 20 (HS.new hOne) (endsf cSmall 20 (HS.new hOne) ⟨lSmall, 0, Acc.zero⟩).2.2).2.1 ∧ IsMem w' m p q cSmall bSmall ∧ Chg (Tri a p q) w w' := by
  have := ends_any a m p q cSmall small_ok (HS.new hOne) (endsf cSmall 20 (HS.new hOne) ⟨lSmall, 0, Acc.zero⟩).2.2 w 20 (by omega) hH hm h1 h2 h3 (new_fit one_u64) wd_small1
  rw [ends_small2] at this
  exact this

set_option maxRecDepth 100000 in
set_option maxHeartbeats 4000000 in
theorem halive (w : World) : Calls Try.prog 30 #[] w fun e w' => e = .returned (.bool true) ∧ Gr w w' := by
  have hLay := hid lay_call
  have hOf := hid (fun v w hv => mof_any cSmall small_ok v lSmall w hv small_cells)
  have hE1 := hid ends_one
  have hE2 := hid ends_two
  have hMk1 := hid (fun w => (marked_any _ (load_old_u64 wd_small (cSmall.cel (hI hOne) 6) (hPl hOne)) w).mono fun e w' h => (⟨by rw [h.1, mark_small], h.2⟩ : e = .returned (.bool true) ∧ w = w'))
  have hMk2 := hid (fun w => (marked_any _ (load_old_u64 (wd_load wd_small (cSmall.cel (hI hOne) 6) (hPl hOne)) (cSmall.cel (hI hOne) 7) (hPl hOne)) w).mono fun e w' h => (⟨by rw [h.1, mark_small2], h.2⟩ : e = .returned (.bool true) ∧ w = w'))
  have hOne' := hid (fun w => stepstoneref01_Of.calls 3 1 0 hOne w of_small)
  go_enter Try.func30, Try.ntmps30
  go_wp2_with fail
  have X : Blk (w.alloc (.cells #[.int .i64 1, .int .i64 1, .int .i64 1, .int .i64 2, .int .i64 1, .int .i64 1, .int .i64 9] 23)) w.heap.size #[.int .i64 1, .int .i64 1, .int .i64 1, .int .i64 2, .int .i64 1, .int .i64 1, .int .i64 9] 23 := Blk.new _ _ _
  have G0 := hid ((Gr.refl w).alloc (.cells #[.int .i64 1, .int .i64 1, .int .i64 1, .int .i64 2, .int .i64 1, .int .i64 1, .int .i64 9] 23))
  generalize (w.alloc (.cells #[.int .i64 1, .int .i64 1, .int .i64 1, .int .i64 2, .int .i64 1, .int .i64 1, .int .i64 9] 23)) = w1 at *
  have AX := hid X
  clear X
  refine wp_region_anyC (n := 11) (Gr w1) (by kernel_rfl) rfl ?_
  refine anyC_quiet (a1 := ?a1) (by kernel_rfl) 8 [0, 1, 2] _ _ _ (by kernel_rfl) (by kernel_rfl) (Gr.refl w1).drew ?_ ?_
  rotate_left
  · intro w' g'
    have hne : Nonempty (St (· = w')) := ⟨⟨w', rfl⟩⟩
    have X3 := AX.out.gr g'
    have y0 : ∀ s : St (· = w'), s.val.cell? ⟨w.heap.size, 0, none⟩ = some (.int .i64 1) := fun s => by rw [s.ok]; exact X3.cell rfl
    have y1 : ∀ s : St (· = w'), s.val.cell? ⟨w.heap.size, 1, none⟩ = some (.int .i64 1) := fun s => by rw [s.ok]; exact X3.cell rfl
    have y2 : ∀ s : St (· = w'), s.val.cell? ⟨w.heap.size, 2, none⟩ = some (.int .i64 1) := fun s => by rw [s.ok]; exact X3.cell rfl
    have y3 : ∀ s : St (· = w'), s.val.cell? ⟨w.heap.size, 3, none⟩ = some (.int .i64 2) := fun s => by rw [s.ok]; exact X3.cell rfl
    have y4 : ∀ s : St (· = w'), s.val.cell? ⟨w.heap.size, 4, none⟩ = some (.int .i64 1) := fun s => by rw [s.ok]; exact X3.cell rfl
    have y5 : ∀ s : St (· = w'), s.val.cell? ⟨w.heap.size, 5, none⟩ = some (.int .i64 1) := fun s => by rw [s.ok]; exact X3.cell rfl
    have y6 : ∀ s : St (· = w'), s.val.cell? ⟨w.heap.size, 6, none⟩ = some (.int .i64 9) := fun s => by rw [s.ok]; exact X3.cell rfl
    clear X3 g'
    conv => arg 5; simp only [picked, List.filterMap_cons, List.filterMap_nil, List.getElem?_toArray, List.getElem?_cons_zero, List.getElem?_cons_succ]
    show wpQuiet _ _ _ _ [_, _, _] _
    repeat (go_big_quiet_step (fail))
    refine wpQuiet_nil ?_
    rfl
  refine anyC_alone 3 (Gr.refl w1).drew (by kernel_rfl) (by kernel_rfl) ?_
  conv => arg 4; simp only [picked, List.filterMap_cons, List.filterMap_nil, List.getElem?_toArray, List.getElem?_cons_zero, List.getElem?_cons_succ]
  show wpList _ _ _ [_] _ _
  go_wp2_with fail
  have C2 := hid (((Gr.refl w1).alloc (.cells #[.int .u64 1, .int .u64 0, .int .i64 2, .int .i64 0, .bool true] 69)).drew)
  have K2 := hid (Blk.drew (Blk.new w1 #[.int .u64 1, .int .u64 0, .int .i64 2, .int .i64 0, .bool true] 69))
  generalize (w1.alloc (.cells #[.int .u64 1, .int .u64 0, .int .i64 2, .int .i64 0, .bool true] 69)).drew = w2 at *
  refine ⟨C2.out, ?_⟩
  refine anyC_alone 4 C2.out (by kernel_rfl) (by kernel_rfl) ?_
  conv => arg 4; simp only [picked, List.filterMap_cons, List.filterMap_nil, List.getElem?_toArray, List.getElem?_cons_zero, List.getElem?_cons_succ]
  show wpList _ _ _ [_] _ _
  go_wp2_with fail
  refine (hLay.out _ w2 K2.out 1 (Nat.le_refl _)).mono ?_
  rintro e w3 ⟨v, rfl, hw3, g3⟩
  have W3 := hid hw3
  have C3 := hid (Gr.trans C2.out g3)
  clear hw3 g3
  go_wp2_with fail
  refine ⟨C3.out, ?_⟩
  refine anyC_alone 5 C3.out (by kernel_rfl) (by kernel_rfl) ?_
  conv => arg 4; simp only [picked, List.filterMap_cons, List.filterMap_nil, List.getElem?_toArray, List.getElem?_cons_zero, List.getElem?_cons_succ]
  show wpList _ _ _ [_] _ _
  go_wp2_with fail
  refine (hOf.out v w3 W3.out).mono ?_
  rintro e w4 ⟨m, p, q, rfl, hm4, g4, sm, sp, sq⟩
  have M4 := hid hm4
  have C4 := hid (Gr.trans C3.out g4)
  clear g4 hm4
  go_wp2_with fail
  refine ⟨C4.out, ?_⟩
  refine anyC_quiet (a1 := ?a2) (by kernel_rfl) 0 [6, 7, 8, 9, 10] _ _ _ (by kernel_rfl) (by kernel_rfl) C4.out ?_ ?_
  rotate_left
  · intro w' g'
    have hne : Nonempty (St (· = w')) := ⟨⟨w', rfl⟩⟩
    clear g'
    conv => arg 5; simp only [picked, List.filterMap_cons, List.filterMap_nil, List.getElem?_toArray, List.getElem?_cons_zero, List.getElem?_cons_succ]
    show wpQuiet _ _ _ _ [_, _, _, _, _] _
    repeat (go_big_quiet_step (fail))
    refine wpQuiet_nil ?_
    rfl
  refine ⟨by kernel_rfl, ?_⟩
  go_wp2_with fail
  refine (hOne'.out _).mono ?_
  rintro e w5 ⟨rfl, g5⟩
  have C5 := hid (Gr.trans C4.out (by first | exact g5 | exact g5.below) : Gr w1 w5)
  have M5 := hid (M4.out.gr (by first | exact g5 | exact g5.below))
  have s5 : w4.heap.size ≤ w5.heap.size := (show Gr w4 w5 by first | exact g5 | exact g5.below).size
  have mlt : m < w4.heap.size := M4.out.mem.lt
  have plt : p < w4.heap.size := M4.out.bank.head.lt
  have qlt : q < w4.heap.size := M4.out.bank.row.lt
  clear g5
  go_wp2_with fail
  refine (hnew_any hOne _).mono ?_
  rintro e w6 ⟨rfl, rfl⟩
  go_wp2_with fail
  refine (hnew_any hOne _).mono ?_
  rintro e w7 ⟨rfl, rfl⟩
  have A1 := hid ((Blk.new w5 (helpRow (HS.new hOne)) 98).alloc (.cells (helpRow (HS.new hOne)) 98))
  have A2 : Hid (Blk ((w5.alloc (.cells (helpRow (HS.new hOne)) 98)).alloc (.cells (helpRow (HS.new hOne)) 98)) (w5.heap.size + 1) (helpRow (HS.new hOne)) 98) := hid (Blk.new' (by simp))
  have M7 := hid (M5.out.gr (((Gr.refl w5).alloc (.cells (helpRow (HS.new hOne)) 98)).alloc (.cells (helpRow (HS.new hOne)) 98)))
  have C7 := hid ((C5.out.alloc (.cells (helpRow (HS.new hOne)) 98)).alloc (.cells (helpRow (HS.new hOne)) 98))
  have hsz : (w5.alloc (.cells (helpRow (HS.new hOne)) 98)).heap.size = w5.heap.size + 1 := by simp
  rw [hsz]
  clear hsz
  generalize ((w5.alloc (.cells (helpRow (HS.new hOne)) 98)).alloc (.cells (helpRow (HS.new hOne)) 98)) = w7 at *
  have hbk := hid (mbank_any m p q cSmall ⟨lSmall, 0, Acc.zero⟩ w7 M7.out)
  go_wp2_with fail
  refine hbk.out.mono ?_
  rintro e w8 ⟨rfl, rfl⟩
  go_wp2_with fail
  refine (hE1.out _ m p q w7 A1.out M7.out (by omega) (by omega) (by omega)).mono ?_
  rintro e w8 ⟨rfl, _, hm8, g8⟩
  have A8 := hid (Blk.chg A2.out g8 (by unfold Tri; omega))
  have M8 := hid hm8
  have C8 := hid (Gr.step C7.out g8 (by unfold Tri; have := C5.out.size; have := C4.out.size; have := C3.out.size; intro k hk; rcases hk with h | h | h <;> omega))
  clear hm8 g8
  go_wp2_with fail
  refine (hE2.out _ m p q w8 A8.out M8.out (by omega) (by omega) (by omega)).mono ?_
  rintro e w9 ⟨rfl, _, hm9, g9⟩
  have M9 := hid hm9
  have C9 := hid (Gr.step C8.out g9 (by unfold Tri; have := C5.out.size; have := C4.out.size; have := C3.out.size; intro k hk; rcases hk with h | h | h <;> omega))
  clear hm9 g9
  have hL1 := hid (mload_any m p q cSmall bSmall hOne 6 one_u64 w9 M9.out)
  go_wp2_with fail
  refine hL1.out.mono ?_
  rintro e wa ⟨rfl, hba, ga⟩
  have Ma := hid (⟨M9.out.mem.chg ga (by unfold Two; have := M9.out.nmp; have := M9.out.nmq; omega), hba, M9.out.nmp, M9.out.nmq⟩ : IsMem wa m p q cSmall (bSmall.load (cSmall.cel (hI hOne) 6) (hPl hOne)))
  have Ca := hid (Gr.step C9.out ga (by unfold Two; have := C5.out.size; have := C4.out.size; have := C3.out.size; intro k hk; rcases hk with h | h <;> omega))
  clear hba ga
  go_wp2_with fail
  refine (hMk1.out _).mono ?_
  rintro e wb ⟨rfl, rfl⟩
  have hL2 := hid (mload_any m p q cSmall (bSmall.load (cSmall.cel (hI hOne) 6) (hPl hOne)) hOne 7 one_u64 wa Ma.out)
  go_wp2_with fail
  refine hL2.out.mono ?_
  rintro e wc ⟨rfl, hbc, gc⟩
  have Cc := hid (Gr.step Ca.out gc (by unfold Two; have := C5.out.size; have := C4.out.size; have := C3.out.size; intro k hk; rcases hk with h | h <;> omega))
  clear hbc gc
  go_wp2_with fail
  refine (hMk2.out _).mono ?_
  rintro e wd ⟨rfl, rfl⟩
  go_wp2_with fail
  go_ret
  exact ⟨rfl, Gr.trans G0.out Cc.out⟩
end Go.Proofs.YthbkncklliiooaaH
