/-
  The reference's step of a help: a level is marked.
-/
import Derived.Test.YthbkncklliiooaaRg
namespace Go.Proofs.YthbkncklliiooaaH
set_option linter.unusedVariables false
set_option linter.unusedSimpArgs false
open Go.RowKit Go.Proofs.Ythbkncklliiooaa.Q

set_option maxRecDepth 100000 in
set_option maxHeartbeats 2000000 in
theorem rstep_mark_yes (c : Cf) (s : Value) (B : Bk) (h nx lv z : Int) (dn : Bool) (w : World) (hv : Words w s B.cells) (hne : B.cells ≠ []) (hd : dn = false) (hn : nx = 2) (hl0 : 0 ≤ lv) (hl1 : lv ≤ 10) (B1 : Bk) (hu : U64 z) (hm : B1.last.done = true) (hl : ∀ s w, Words w s B.cells → Calls Try.prog 71 #[mval c s B, .int .u64 h, .int .i64 (wrap64 (6 + lv)), .int .u64 z, .int .u64 (hMk z)] w (MTold w c s B1 (.bool B1.last.done))) :
    Calls Try.prog 45 #[.agg #[.int .u64 h, .int .i64 nx, .int .i64 lv, .int .u64 z, .bool dn], mval c s B] w (STold w c s ⟨h, 1, lv - 1, z, lv == 0⟩ B1) := by
  obtain ⟨A, cap, rfl⟩ := hv.slice
  have HV := hid hv
  have HN := hid hne
  clear hv hne
  have hld := hid (hl (.slice A B.cells.length cap))
  have HMK := hid (rmark_any z hu)
  have HMD := hid hm
  have HDN := hid (rdown_any h 2 lv z false hl0 hl1)
  clear hl hl0 hl1 hu hm
  unfold mval at hld
  generalize hMk z = mz at *
  subst hd
  subst hn
  unfold mval
  go_enter Try.func45, Try.ntmps45
  go_wp2_with fail
  have G0 := hid (((((Gr.refl w).alloc (.cells #[.int .u64 h, .int .i64 2, .int .i64 lv, .int .u64 z, .bool false] 84)).alloc (.cells #[.int .i64 c.th, .int .i64 c.sl, .int .i64 c.cp, .int .i64 c.he, .int .i64 c.ke, .int .i64 c.ev, .int .i64 c.la, .slice A B.cells.length cap, .int .i64 B.count, .int .i64 B.last.kind, .int .i64 B.last.cell, .int .u64 B.last.via, .int .u64 B.last.old, .int .u64 B.last.new, .bool B.last.done] 50)).alloc (.cells #[.int .u64 0, .int .i64 0, .int .i64 0, .int .u64 0, .bool false] 84)).alloc (.cells #[.int .i64 0, .int .i64 0, .int .i64 0, .int .i64 0, .int .i64 0, .int .i64 0, .int .i64 0, .slice none 0 0, .int .i64 0, .int .i64 0, .int .i64 0, .int .u64 0, .int .u64 0, .int .u64 0, .bool false] 50))
  have A2 : Hid (Blk ((((w.alloc (.cells #[.int .u64 h, .int .i64 2, .int .i64 lv, .int .u64 z, .bool false] 84)).alloc (.cells #[.int .i64 c.th, .int .i64 c.sl, .int .i64 c.cp, .int .i64 c.he, .int .i64 c.ke, .int .i64 c.ev, .int .i64 c.la, .slice A B.cells.length cap, .int .i64 B.count, .int .i64 B.last.kind, .int .i64 B.last.cell, .int .u64 B.last.via, .int .u64 B.last.old, .int .u64 B.last.new, .bool B.last.done] 50)).alloc (.cells #[.int .u64 0, .int .i64 0, .int .i64 0, .int .u64 0, .bool false] 84)).alloc (.cells #[.int .i64 0, .int .i64 0, .int .i64 0, .int .i64 0, .int .i64 0, .int .i64 0, .int .i64 0, .slice none 0 0, .int .i64 0, .int .i64 0, .int .i64 0, .int .u64 0, .int .u64 0, .int .u64 0, .bool false] 50)) w.heap.size #[.int .u64 h, .int .i64 2, .int .i64 lv, .int .u64 z, .bool false] 84) := hid ((((Blk.new w #[.int .u64 h, .int .i64 2, .int .i64 lv, .int .u64 z, .bool false] 84).alloc _).alloc _).alloc _)
  have A3 : Hid (Blk ((((w.alloc (.cells #[.int .u64 h, .int .i64 2, .int .i64 lv, .int .u64 z, .bool false] 84)).alloc (.cells #[.int .i64 c.th, .int .i64 c.sl, .int .i64 c.cp, .int .i64 c.he, .int .i64 c.ke, .int .i64 c.ev, .int .i64 c.la, .slice A B.cells.length cap, .int .i64 B.count, .int .i64 B.last.kind, .int .i64 B.last.cell, .int .u64 B.last.via, .int .u64 B.last.old, .int .u64 B.last.new, .bool B.last.done] 50)).alloc (.cells #[.int .u64 0, .int .i64 0, .int .i64 0, .int .u64 0, .bool false] 84)).alloc (.cells #[.int .i64 0, .int .i64 0, .int .i64 0, .int .i64 0, .int .i64 0, .int .i64 0, .int .i64 0, .slice none 0 0, .int .i64 0, .int .i64 0, .int .i64 0, .int .u64 0, .int .u64 0, .int .u64 0, .bool false] 50)) (w.heap.size + 1) #[.int .i64 c.th, .int .i64 c.sl, .int .i64 c.cp, .int .i64 c.he, .int .i64 c.ke, .int .i64 c.ev, .int .i64 c.la, .slice A B.cells.length cap, .int .i64 B.count, .int .i64 B.last.kind, .int .i64 B.last.cell, .int .u64 B.last.via, .int .u64 B.last.old, .int .u64 B.last.new, .bool B.last.done] 50) := hid (((Blk.new' (by simp)).alloc _).alloc _)
  have A4 : Hid (Blk ((((w.alloc (.cells #[.int .u64 h, .int .i64 2, .int .i64 lv, .int .u64 z, .bool false] 84)).alloc (.cells #[.int .i64 c.th, .int .i64 c.sl, .int .i64 c.cp, .int .i64 c.he, .int .i64 c.ke, .int .i64 c.ev, .int .i64 c.la, .slice A B.cells.length cap, .int .i64 B.count, .int .i64 B.last.kind, .int .i64 B.last.cell, .int .u64 B.last.via, .int .u64 B.last.old, .int .u64 B.last.new, .bool B.last.done] 50)).alloc (.cells #[.int .u64 0, .int .i64 0, .int .i64 0, .int .u64 0, .bool false] 84)).alloc (.cells #[.int .i64 0, .int .i64 0, .int .i64 0, .int .i64 0, .int .i64 0, .int .i64 0, .int .i64 0, .slice none 0 0, .int .i64 0, .int .i64 0, .int .i64 0, .int .u64 0, .int .u64 0, .int .u64 0, .bool false] 50)) (w.heap.size + 1 + 1) #[.int .u64 0, .int .i64 0, .int .i64 0, .int .u64 0, .bool false] 84) := hid ((Blk.new' (by simp)).alloc _)
  have A5 : Hid (Blk ((((w.alloc (.cells #[.int .u64 h, .int .i64 2, .int .i64 lv, .int .u64 z, .bool false] 84)).alloc (.cells #[.int .i64 c.th, .int .i64 c.sl, .int .i64 c.cp, .int .i64 c.he, .int .i64 c.ke, .int .i64 c.ev, .int .i64 c.la, .slice A B.cells.length cap, .int .i64 B.count, .int .i64 B.last.kind, .int .i64 B.last.cell, .int .u64 B.last.via, .int .u64 B.last.old, .int .u64 B.last.new, .bool B.last.done] 50)).alloc (.cells #[.int .u64 0, .int .i64 0, .int .i64 0, .int .u64 0, .bool false] 84)).alloc (.cells #[.int .i64 0, .int .i64 0, .int .i64 0, .int .i64 0, .int .i64 0, .int .i64 0, .int .i64 0, .slice none 0 0, .int .i64 0, .int .i64 0, .int .i64 0, .int .u64 0, .int .u64 0, .int .u64 0, .bool false] 50)) (w.heap.size + 1 + 1 + 1) #[.int .i64 0, .int .i64 0, .int .i64 0, .int .i64 0, .int .i64 0, .int .i64 0, .int .i64 0, .slice none 0 0, .int .i64 0, .int .i64 0, .int .i64 0, .int .u64 0, .int .u64 0, .int .u64 0, .bool false] 50) := hid (Blk.new' (by simp))
  generalize ((((w.alloc (.cells #[.int .u64 h, .int .i64 2, .int .i64 lv, .int .u64 z, .bool false] 84)).alloc (.cells #[.int .i64 c.th, .int .i64 c.sl, .int .i64 c.cp, .int .i64 c.he, .int .i64 c.ke, .int .i64 c.ev, .int .i64 c.la, .slice A B.cells.length cap, .int .i64 B.count, .int .i64 B.last.kind, .int .i64 B.last.cell, .int .u64 B.last.via, .int .u64 B.last.old, .int .u64 B.last.new, .bool B.last.done] 50)).alloc (.cells #[.int .u64 0, .int .i64 0, .int .i64 0, .int .u64 0, .bool false] 84)).alloc (.cells #[.int .i64 0, .int .i64 0, .int .i64 0, .int .i64 0, .int .i64 0, .int .i64 0, .int .i64 0, .slice none 0 0, .int .i64 0, .int .i64 0, .int .i64 0, .int .u64 0, .int .u64 0, .int .u64 0, .bool false] 50)) = W0 at *
  have XS0 : w.heap.size + 1 + 1 + 1 < W0.heap.size := A5.out.lt
  generalize e3 : w.heap.size + 1 = x3 at *
  generalize e4 : x3 + 1 = x4 at *
  generalize e5 : x4 + 1 = x5 at *
  generalize e2 : w.heap.size = x2 at *
  have XS : Hid (x2 = w.heap.size ∧ x2 < x3 ∧ x3 < x4 ∧ x4 < x5 ∧ x5 < W0.heap.size) := hid ⟨e2.symm, by omega, by omega, by omega, XS0⟩
  clear XS0 e2 e3 e4 e5
  refine wp_region_anyC (n := 18) (Gr W0) (by kernel_rfl) rfl ?_
  have CD := hid ((Gr.refl W0).drew)
  generalize W0.drew = wd at *
  refine anyC_quiet (a1 := ?a7) (by kernel_rfl) 8 [0, 1, 2, 3, 4, 5, 6, 7, 8, 9] _ _ _ (by kernel_rfl) (by kernel_rfl) CD.out ?_ ?_
  rotate_left
  · intro w' g'
    have hne : Nonempty (St (· = w')) := ⟨⟨w', rfl⟩⟩
    have X3 := A2.out.gr g'
    obtain ⟨u0, u1, u2, u3, u4⟩ := st5 (X3)
    clear X3
    have X3 := A3.out.gr g'
    obtain ⟨y0, y1, y2, y3, y4, y5, y6, y7, y8, y9, y10, y11, y12, y13, y14⟩ := st15 (X3)
    clear X3
    clear g'
    conv => arg 5; simp only [picked, List.filterMap_cons, List.filterMap_nil, List.getElem?_toArray, List.getElem?_cons_zero, List.getElem?_cons_succ]
    show wpQuiet _ _ _ _ [_, _, _, _, _, _, _, _, _, _] _
    repeat (go_big_quiet_step (fail))
    refine wpQuiet_nil ?_
    rfl
  refine anyC_two 10 15 CD.out (by kernel_rfl) (by kernel_rfl) (by kernel_rfl) ?_ ?_
  · conv => arg 4; simp only [picked, List.filterMap_cons, List.filterMap_nil, List.getElem?_toArray, List.getElem?_cons_zero, List.getElem?_cons_succ]
    show wpList _ _ _ [_] _ _
    go_wp2_with fail
    refine (HMK.out _).mono ?_
    rintro e w8 ⟨rfl, gw8⟩
    have C9 := hid (Gr.trans CD.out gw8)
    clear gw8
    go_wp2_with fail
    refine ⟨C9.out, ?_⟩
    refine anyC_two 11 15 C9.out (by kernel_rfl) (by kernel_rfl) (by kernel_rfl) ?_ ?_
    · conv => arg 4; simp only [picked, List.filterMap_cons, List.filterMap_nil, List.getElem?_toArray, List.getElem?_cons_zero, List.getElem?_cons_succ]
      show wpList _ _ _ [_] _ _
      go_wp2_with fail
      refine (hld.out _ (HV.out.gr (Gr.trans G0.out C9.out))).mono ?_
      rintro e w10 ⟨s1, rfl, hw1, gw10, hf1⟩
      have C11 := hid (Gr.trans C9.out gw10)
      obtain ⟨A1, cap1, rfl⟩ := hw1.slice
      have HW := hid hw1
      have NX := hid (Fresh.nx (hi := W0.heap.size) hf1 HV.out HN.out (C9.out).size)
      have HF := hid (Fresh.mono hf1 (Gr.trans G0.out C9.out).size)
      clear hw1 hf1
      unfold mval
      clear gw10
      go_wp2_with fail
      refine ⟨C11.out, ?_⟩
      refine anyC_quiet (a1 := ?a12) (by kernel_rfl) 3 [12, 13, 14] _ _ _ (by kernel_rfl) (by kernel_rfl) C11.out ?_ ?_
      rotate_left
      · intro w' g'
        have hne : Nonempty (St (· = w')) := ⟨⟨w', rfl⟩⟩
        clear g'
        conv => arg 5; simp only [picked, List.filterMap_cons, List.filterMap_nil, List.getElem?_toArray, List.getElem?_cons_zero, List.getElem?_cons_succ]
        show wpQuiet _ _ _ _ [_, _, _] _
        repeat (go_big_quiet_step (fail))
        refine wpQuiet_nil ?_
        rfl
      refine anyC_alone 15 C11.out (by kernel_rfl) (by kernel_rfl) ?_
      conv => arg 4; simp only [picked, List.filterMap_cons, List.filterMap_nil, List.getElem?_toArray, List.getElem?_cons_zero, List.getElem?_cons_succ]
      show wpList _ _ _ [_] _ _
      go_wp2_with fail
      have C14 : Hid (Gr W0 (w10.alloc (.cells #[.int .i64 0, .int .i64 0, .int .i64 0, .int .i64 0, .int .i64 0, .int .i64 0, .int .i64 0, .slice none 0 0, .int .i64 0, .int .i64 0, .int .i64 0, .int .u64 0, .int .u64 0, .int .u64 0, .bool false] 50))) := hid ((C11.out).alloc _)
      have B15 : Hid (Blk (w10.alloc (.cells #[.int .i64 0, .int .i64 0, .int .i64 0, .int .i64 0, .int .i64 0, .int .i64 0, .int .i64 0, .slice none 0 0, .int .i64 0, .int .i64 0, .int .i64 0, .int .u64 0, .int .u64 0, .int .u64 0, .bool false] 50)) w10.heap.size #[.int .i64 0, .int .i64 0, .int .i64 0, .int .i64 0, .int .i64 0, .int .i64 0, .int .i64 0, .slice none 0 0, .int .i64 0, .int .i64 0, .int .i64 0, .int .u64 0, .int .u64 0, .int .u64 0, .bool false] 50) := hid (Blk.new' (by simp))
      have BG : Hid (W0.heap.size ≤ w10.heap.size) := hid ((C11.out).size)
      refine ⟨C14.out, ?_⟩
      have GC : Hid (Gr w10 (w10.alloc (.cells #[.int .i64 0, .int .i64 0, .int .i64 0, .int .i64 0, .int .i64 0, .int .i64 0, .int .i64 0, .slice none 0 0, .int .i64 0, .int .i64 0, .int .i64 0, .int .u64 0, .int .u64 0, .int .u64 0, .bool false] 50))) := hid ((Gr.refl _).alloc _)
      generalize (w10.alloc (.cells #[.int .i64 0, .int .i64 0, .int .i64 0, .int .i64 0, .int .i64 0, .int .i64 0, .int .i64 0, .slice none 0 0, .int .i64 0, .int .i64 0, .int .i64 0, .int .u64 0, .int .u64 0, .int .u64 0, .bool false] 50)) = w13 at *
      generalize hbe : w10.heap.size = b16 at *
      have BE := hid hbe
      clear hbe
      have hbl := B15.out.lt
      have hbf := fun i => Blk.free B15.out i
      obtain ⟨z0, z1, z2, z3, z4, z5, z6, z7, z8, z9, z10, z11, z12, z13, z14⟩ := cells15 (B15.out)
      refine anyC_alone 16 C14.out (by kernel_rfl) (by kernel_rfl) ?_
      conv => arg 4; simp only [picked, List.filterMap_cons, List.filterMap_nil, List.getElem?_toArray, List.getElem?_cons_zero, List.getElem?_cons_succ]
      show wpList _ _ _ [_] _ _
      go_wp2_with fail
      have B19 := hid (blk_put15 B15.out (.int .i64 c.th) (.int .i64 c.sl) (.int .i64 c.cp) (.int .i64 c.he) (.int .i64 c.ke) (.int .i64 c.ev) (.int .i64 c.la) (.slice A1 B1.cells.length cap1) (.int .i64 B1.count) (.int .i64 B1.last.kind) (.int .i64 B1.last.cell) (.int .u64 B1.last.via) (.int .u64 B1.last.old) (.int .u64 B1.last.new) (.bool B1.last.done))
      have HC := hid (chg_put15 w13 b16 (.int .i64 c.th) (.int .i64 c.sl) (.int .i64 c.cp) (.int .i64 c.he) (.int .i64 c.ke) (.int .i64 c.ev) (.int .i64 c.la) (.slice A1 B1.cells.length cap1) (.int .i64 B1.count) (.int .i64 B1.last.kind) (.int .i64 B1.last.cell) (.int .u64 B1.last.via) (.int .u64 B1.last.old) (.int .u64 B1.last.new) (.bool B1.last.done))
      have C18 : Hid (Gr W0 (((((((((((((((w13.setCell ⟨b16, 0, none⟩ (.int .i64 c.th)).setCell ⟨b16, 1, none⟩ (.int .i64 c.sl)).setCell ⟨b16, 2, none⟩ (.int .i64 c.cp)).setCell ⟨b16, 3, none⟩ (.int .i64 c.he)).setCell ⟨b16, 4, none⟩ (.int .i64 c.ke)).setCell ⟨b16, 5, none⟩ (.int .i64 c.ev)).setCell ⟨b16, 6, none⟩ (.int .i64 c.la)).setCell ⟨b16, 7, none⟩ (.slice A1 B1.cells.length cap1)).setCell ⟨b16, 8, none⟩ (.int .i64 B1.count)).setCell ⟨b16, 9, none⟩ (.int .i64 B1.last.kind)).setCell ⟨b16, 10, none⟩ (.int .i64 B1.last.cell)).setCell ⟨b16, 11, none⟩ (.int .u64 B1.last.via)).setCell ⟨b16, 12, none⟩ (.int .u64 B1.last.old)).setCell ⟨b16, 13, none⟩ (.int .u64 B1.last.new)).setCell ⟨b16, 14, none⟩ (.bool B1.last.done))) := hid ((C14.out).step HC.out (by rintro i rfl; exact BG.out))
      have HW2 := hid (HW.out.keep (Chg.trans GC.out.chg HC.out) (fun a n c e h => by have := BE.out; omega))
      clear z0 z1 z2 z3 z4 z5 z6 z7 z8 z9 z10 z11 z12 z13 z14 hbl hbf
      generalize (((((((((((((((w13.setCell ⟨b16, 0, none⟩ (.int .i64 c.th)).setCell ⟨b16, 1, none⟩ (.int .i64 c.sl)).setCell ⟨b16, 2, none⟩ (.int .i64 c.cp)).setCell ⟨b16, 3, none⟩ (.int .i64 c.he)).setCell ⟨b16, 4, none⟩ (.int .i64 c.ke)).setCell ⟨b16, 5, none⟩ (.int .i64 c.ev)).setCell ⟨b16, 6, none⟩ (.int .i64 c.la)).setCell ⟨b16, 7, none⟩ (.slice A1 B1.cells.length cap1)).setCell ⟨b16, 8, none⟩ (.int .i64 B1.count)).setCell ⟨b16, 9, none⟩ (.int .i64 B1.last.kind)).setCell ⟨b16, 10, none⟩ (.int .i64 B1.last.cell)).setCell ⟨b16, 11, none⟩ (.int .u64 B1.last.via)).setCell ⟨b16, 12, none⟩ (.int .u64 B1.last.old)).setCell ⟨b16, 13, none⟩ (.int .u64 B1.last.new)).setCell ⟨b16, 14, none⟩ (.bool B1.last.done)) = w17 at *
      refine ⟨C18.out, ?_⟩
      refine anyC_quiet (a1 := ?a20) (by kernel_rfl) 0 [17] _ _ _ (by kernel_rfl) (by kernel_rfl) C18.out ?_ ?_
      rotate_left
      · intro w' g'
        have hne : Nonempty (St (· = w')) := ⟨⟨w', rfl⟩⟩
        clear g'
        conv => arg 5; simp only [picked, List.filterMap_cons, List.filterMap_nil, List.getElem?_toArray, List.getElem?_cons_zero, List.getElem?_cons_succ]
        show wpQuiet _ _ _ _ [_] _
        repeat (go_big_quiet_step (fail))
        refine wpQuiet_nil ?_
        rfl
      refine ⟨by kernel_rfl, ?_⟩
      have GW1 := hid (Gr.trans G0.out C18.out)
      have D2 := hid (A2.out.gr C18.out)
      have D4 := hid (A4.out.gr C18.out)
      have D5 := hid (A5.out.gr C18.out)
      have hmd := HMD.out
      go_wp2_with fail
      clear hmd
      have HI := And.intro (⟨D2.out, B19.out, Chg.refl _ _⟩ : Cls w.heap.size W0.heap.size w17 x2 b16 #[.int .u64 h, .int .i64 2, .int .i64 lv, .int .u64 z, .bool false] #[.int .i64 c.th, .int .i64 c.sl, .int .i64 c.cp, .int .i64 c.he, .int .i64 c.ke, .int .i64 c.ev, .int .i64 c.la, .slice A1 B1.cells.length cap1, .int .i64 B1.count, .int .i64 B1.last.kind, .int .i64 B1.last.cell, .int .u64 B1.last.via, .int .u64 B1.last.old, .int .u64 B1.last.new, .bool B1.last.done] w17) (And.intro D4.out D5.out)
      have HC := hid HI.1.drew
      have D4 := hid HI.2.1.drew
      have D5 := hid HI.2.2.drew
      clear HI
      refine wp_region_anyC (n := 5) (Cls w.heap.size W0.heap.size w17 x2 b16 #[.int .u64 h, .int .i64 2, .int .i64 lv, .int .u64 z, .bool false] #[.int .i64 c.th, .int .i64 c.sl, .int .i64 c.cp, .int .i64 c.he, .int .i64 c.ke, .int .i64 c.ev, .int .i64 c.la, .slice A1 B1.cells.length cap1, .int .i64 B1.count, .int .i64 B1.last.kind, .int .i64 B1.last.cell, .int .u64 B1.last.via, .int .u64 B1.last.old, .int .u64 B1.last.new, .bool B1.last.done]) (by kernel_rfl) rfl ?_
      generalize World.drew _ = Wd at *
      refine anyC_quiet (a1 := ?a21) (by kernel_rfl) 3 [0, 2] _ _ _ (by kernel_rfl) (by kernel_rfl) HC.out ?_ ?_
      rotate_left
      · intro w' g'
        have hne : Nonempty (St (· = w')) := ⟨⟨w', rfl⟩⟩
        have X3 := g'.x
        obtain ⟨u0, u1, u2, u3, u4⟩ := st5 (X3)
        clear X3
        have X3 := g'.m
        obtain ⟨y0, y1, y2, y3, y4, y5, y6, y7, y8, y9, y10, y11, y12, y13, y14⟩ := st15 (X3)
        clear X3
        clear g'
        conv => arg 5; simp only [picked, List.filterMap_cons, List.filterMap_nil, List.getElem?_toArray, List.getElem?_cons_zero, List.getElem?_cons_succ]
        show wpQuiet _ _ _ _ [_, _] _
        repeat (go_big_quiet_step (fail))
        refine wpQuiet_nil ?_
        rfl
      refine anyC_alone 1 HC.out (by kernel_rfl) (by kernel_rfl) ?_
      conv => arg 4; simp only [picked, List.filterMap_cons, List.filterMap_nil, List.getElem?_toArray, List.getElem?_cons_zero, List.getElem?_cons_succ]
      show wpList _ _ _ [_] _ _
      go_wp2_with fail
      refine (HDN.out _).mono ?_
      rintro e We ⟨rfl, ge⟩
      have HC' := hid (HC.out.gr ge)
      have D4' := hid (Blk.gr D4.out ge)
      have D5' := hid (Blk.gr D5.out ge)
      clear ge HC D4 D5
      have HC := hid HC'.out
      have D4 := hid D4'.out
      have D5 := hid D5'.out
      clear HC' D4' D5'
      go_wp2_with fail
      refine ⟨HC.out, ?_⟩
      obtain ⟨q0, q1, q2, q3, q4⟩ := cells5 (D4.out)
      have ql := D4.out.lt
      have qf := fun i => Blk.free D4.out i
      refine anyC_alone 3 HC.out (by kernel_rfl) (by kernel_rfl) ?_
      conv => arg 4; simp only [picked, List.filterMap_cons, List.filterMap_nil, List.getElem?_toArray, List.getElem?_cons_zero, List.getElem?_cons_succ]
      show wpList _ _ _ [_] _ _
      go_wp2_with fail
      clear q0 q1 q2 q3 q4 ql qf
      have E4 : Hid (Blk (((((We.setCell ⟨x4, 0, none⟩ (.int .u64 h)).setCell ⟨x4, 1, none⟩ (.int .i64 1)).setCell ⟨x4, 2, none⟩ (.int .i64 (lv - 1))).setCell ⟨x4, 3, none⟩ (.int .u64 z)).setCell ⟨x4, 4, none⟩ (.bool (lv == 0))) x4 #[.int .u64 h, .int .i64 1, .int .i64 (lv - 1), .int .u64 z, .bool (lv == 0)] 84) := hid (blk_put5 D4.out (.int .u64 h) (.int .i64 1) (.int .i64 (lv - 1)) (.int .u64 z) (.bool (lv == 0)))
      have HC4 := hid (chg_put5 We x4 (.int .u64 h) (.int .i64 1) (.int .i64 (lv - 1)) (.int .u64 z) (.bool (lv == 0)))
      have E5 := hid (Blk.chg D5.out HC4.out (by have := XS.out; omega))
      have HC2 := hid (HC.out.put HC4.out (by have := XS.out; omega) (by have := BG.out; have := XS.out; omega) (by have := XS.out; omega) (by have := XS.out; omega))
      generalize (((((We.setCell ⟨x4, 0, none⟩ (.int .u64 h)).setCell ⟨x4, 1, none⟩ (.int .i64 1)).setCell ⟨x4, 2, none⟩ (.int .i64 (lv - 1))).setCell ⟨x4, 3, none⟩ (.int .u64 z)).setCell ⟨x4, 4, none⟩ (.bool (lv == 0))) = Wf at *
      clear HC HC4 D4 D5
      refine ⟨HC2.out, ?_⟩
      obtain ⟨q0, q1, q2, q3, q4, q5, q6, q7, q8, q9, q10, q11, q12, q13, q14⟩ := cells15 (E5.out)
      have ql := E5.out.lt
      have qf := fun i => Blk.free E5.out i
      refine anyC_alone 4 HC2.out (by kernel_rfl) (by kernel_rfl) ?_
      conv => arg 4; simp only [picked, List.filterMap_cons, List.filterMap_nil, List.getElem?_toArray, List.getElem?_cons_zero, List.getElem?_cons_succ]
      show wpList _ _ _ [_] _ _
      go_wp2_with fail
      clear q0 q1 q2 q3 q4 q5 q6 q7 q8 q9 q10 q11 q12 q13 q14 ql qf
      have F5 : Hid (Blk (((((((((((((((Wf.setCell ⟨x5, 0, none⟩ (.int .i64 c.th)).setCell ⟨x5, 1, none⟩ (.int .i64 c.sl)).setCell ⟨x5, 2, none⟩ (.int .i64 c.cp)).setCell ⟨x5, 3, none⟩ (.int .i64 c.he)).setCell ⟨x5, 4, none⟩ (.int .i64 c.ke)).setCell ⟨x5, 5, none⟩ (.int .i64 c.ev)).setCell ⟨x5, 6, none⟩ (.int .i64 c.la)).setCell ⟨x5, 7, none⟩ (.slice A1 B1.cells.length cap1)).setCell ⟨x5, 8, none⟩ (.int .i64 B1.count)).setCell ⟨x5, 9, none⟩ (.int .i64 B1.last.kind)).setCell ⟨x5, 10, none⟩ (.int .i64 B1.last.cell)).setCell ⟨x5, 11, none⟩ (.int .u64 B1.last.via)).setCell ⟨x5, 12, none⟩ (.int .u64 B1.last.old)).setCell ⟨x5, 13, none⟩ (.int .u64 B1.last.new)).setCell ⟨x5, 14, none⟩ (.bool B1.last.done)) x5 #[.int .i64 c.th, .int .i64 c.sl, .int .i64 c.cp, .int .i64 c.he, .int .i64 c.ke, .int .i64 c.ev, .int .i64 c.la, .slice A1 B1.cells.length cap1, .int .i64 B1.count, .int .i64 B1.last.kind, .int .i64 B1.last.cell, .int .u64 B1.last.via, .int .u64 B1.last.old, .int .u64 B1.last.new, .bool B1.last.done] 50) := hid (blk_put15 E5.out (.int .i64 c.th) (.int .i64 c.sl) (.int .i64 c.cp) (.int .i64 c.he) (.int .i64 c.ke) (.int .i64 c.ev) (.int .i64 c.la) (.slice A1 B1.cells.length cap1) (.int .i64 B1.count) (.int .i64 B1.last.kind) (.int .i64 B1.last.cell) (.int .u64 B1.last.via) (.int .u64 B1.last.old) (.int .u64 B1.last.new) (.bool B1.last.done))
      have HC5 := hid (chg_put15 Wf x5 (.int .i64 c.th) (.int .i64 c.sl) (.int .i64 c.cp) (.int .i64 c.he) (.int .i64 c.ke) (.int .i64 c.ev) (.int .i64 c.la) (.slice A1 B1.cells.length cap1) (.int .i64 B1.count) (.int .i64 B1.last.kind) (.int .i64 B1.last.cell) (.int .u64 B1.last.via) (.int .u64 B1.last.old) (.int .u64 B1.last.new) (.bool B1.last.done))
      have F4 := hid (Blk.chg E4.out HC5.out (by have := XS.out; omega))
      have HC3 := hid (HC2.out.put HC5.out (by have := XS.out; omega) (by have := BG.out; have := XS.out; omega) (by have := XS.out; omega) (by have := XS.out; omega))
      generalize (((((((((((((((Wf.setCell ⟨x5, 0, none⟩ (.int .i64 c.th)).setCell ⟨x5, 1, none⟩ (.int .i64 c.sl)).setCell ⟨x5, 2, none⟩ (.int .i64 c.cp)).setCell ⟨x5, 3, none⟩ (.int .i64 c.he)).setCell ⟨x5, 4, none⟩ (.int .i64 c.ke)).setCell ⟨x5, 5, none⟩ (.int .i64 c.ev)).setCell ⟨x5, 6, none⟩ (.int .i64 c.la)).setCell ⟨x5, 7, none⟩ (.slice A1 B1.cells.length cap1)).setCell ⟨x5, 8, none⟩ (.int .i64 B1.count)).setCell ⟨x5, 9, none⟩ (.int .i64 B1.last.kind)).setCell ⟨x5, 10, none⟩ (.int .i64 B1.last.cell)).setCell ⟨x5, 11, none⟩ (.int .u64 B1.last.via)).setCell ⟨x5, 12, none⟩ (.int .u64 B1.last.old)).setCell ⟨x5, 13, none⟩ (.int .u64 B1.last.new)).setCell ⟨x5, 14, none⟩ (.bool B1.last.done)) = Wg at *
      clear HC2 HC5 E4 E5
      refine ⟨HC3.out, ?_⟩
      refine ⟨by kernel_rfl, ?_⟩
      go_wp2_with fail
      refine bodyPost_ret (v := .tuple #[RHS.val ⟨h, 1, lv - 1, z, lv == 0⟩, mval c (.slice A1 B1.cells.length cap1) B1]) (res45 _ x4 x5 _ ⟨h, 1, lv - 1, z, lv == 0⟩ c (.slice A1 B1.cells.length cap1) B1 ⟨_, _, _, rfl⟩ rfl rfl F4.out F5.out) rfl ⟨(.slice A1 B1.cells.length cap1), rfl, ?_, ?_, HF.out⟩
      · exact HW2.out.keep HC3.out.chg (fun a n cc e _ hk => NX.out a n cc e _ hk.1 hk.2 rfl)
      · exact Gr.step GW1.out HC3.out.chg (fun k hk => hk.1)
    · conv => arg 4; simp only [picked, List.filterMap_cons, List.filterMap_nil, List.getElem?_toArray, List.getElem?_cons_zero, List.getElem?_cons_succ]
      show wpList _ _ _ [_] _ _
      go_wp2_with fail
      have C23 : Hid (Gr W0 (w8.alloc (.cells #[.int .i64 0, .int .i64 0, .int .i64 0, .int .i64 0, .int .i64 0, .int .i64 0, .int .i64 0, .slice none 0 0, .int .i64 0, .int .i64 0, .int .i64 0, .int .u64 0, .int .u64 0, .int .u64 0, .bool false] 50))) := hid ((C9.out).alloc _)
      have B24 : Hid (Blk (w8.alloc (.cells #[.int .i64 0, .int .i64 0, .int .i64 0, .int .i64 0, .int .i64 0, .int .i64 0, .int .i64 0, .slice none 0 0, .int .i64 0, .int .i64 0, .int .i64 0, .int .u64 0, .int .u64 0, .int .u64 0, .bool false] 50)) w8.heap.size #[.int .i64 0, .int .i64 0, .int .i64 0, .int .i64 0, .int .i64 0, .int .i64 0, .int .i64 0, .slice none 0 0, .int .i64 0, .int .i64 0, .int .i64 0, .int .u64 0, .int .u64 0, .int .u64 0, .bool false] 50) := hid (Blk.new' (by simp))
      have BG : Hid (W0.heap.size ≤ w8.heap.size) := hid ((C9.out).size)
      refine ⟨C23.out, ?_⟩
      generalize (w8.alloc (.cells #[.int .i64 0, .int .i64 0, .int .i64 0, .int .i64 0, .int .i64 0, .int .i64 0, .int .i64 0, .slice none 0 0, .int .i64 0, .int .i64 0, .int .i64 0, .int .u64 0, .int .u64 0, .int .u64 0, .bool false] 50)) = w22 at *
      generalize hbe : w8.heap.size = b25 at *
      have BE := hid hbe
      clear hbe
      refine anyC_alone 11 C23.out (by kernel_rfl) (by kernel_rfl) ?_
      conv => arg 4; simp only [picked, List.filterMap_cons, List.filterMap_nil, List.getElem?_toArray, List.getElem?_cons_zero, List.getElem?_cons_succ]
      show wpList _ _ _ [_] _ _
      go_wp2_with fail
      refine (hld.out _ (HV.out.gr (Gr.trans G0.out C23.out))).mono ?_
      rintro e w26 ⟨s1, rfl, hw1, gw26, hf1⟩
      have C27 := hid (Gr.trans C23.out gw26)
      have B28 := hid (Blk.gr B24.out gw26)
      obtain ⟨A1, cap1, rfl⟩ := hw1.slice
      have HW := hid hw1
      have NX := hid (Fresh.nx (hi := W0.heap.size) hf1 HV.out HN.out (C23.out).size)
      have HF := hid (Fresh.mono hf1 (Gr.trans G0.out C23.out).size)
      have NB := hid (hf1.apart (w1 := w) (w0 := w) HV.out b25 (by have := BG.out; have := XS.out; omega) (by have := B24.out.lt; omega) HN.out)
      clear hw1 hf1
      unfold mval
      clear gw26
      go_wp2_with fail
      refine ⟨C27.out, ?_⟩
      refine anyC_quiet (a1 := ?a29) (by kernel_rfl) 2 [12, 13, 14] _ _ _ (by kernel_rfl) (by kernel_rfl) C27.out ?_ ?_
      rotate_left
      · intro w' g'
        have hne : Nonempty (St (· = w')) := ⟨⟨w', rfl⟩⟩
        clear g'
        conv => arg 5; simp only [picked, List.filterMap_cons, List.filterMap_nil, List.getElem?_toArray, List.getElem?_cons_zero, List.getElem?_cons_succ]
        show wpQuiet _ _ _ _ [_, _, _] _
        repeat (go_big_quiet_step (fail))
        refine wpQuiet_nil ?_
        rfl
      have hbl := B28.out.lt
      have hbf := fun i => Blk.free B28.out i
      obtain ⟨z0, z1, z2, z3, z4, z5, z6, z7, z8, z9, z10, z11, z12, z13, z14⟩ := cells15 (B28.out)
      refine anyC_alone 16 C27.out (by kernel_rfl) (by kernel_rfl) ?_
      conv => arg 4; simp only [picked, List.filterMap_cons, List.filterMap_nil, List.getElem?_toArray, List.getElem?_cons_zero, List.getElem?_cons_succ]
      show wpList _ _ _ [_] _ _
      go_wp2_with fail
      have B32 := hid (blk_put15 B28.out (.int .i64 c.th) (.int .i64 c.sl) (.int .i64 c.cp) (.int .i64 c.he) (.int .i64 c.ke) (.int .i64 c.ev) (.int .i64 c.la) (.slice A1 B1.cells.length cap1) (.int .i64 B1.count) (.int .i64 B1.last.kind) (.int .i64 B1.last.cell) (.int .u64 B1.last.via) (.int .u64 B1.last.old) (.int .u64 B1.last.new) (.bool B1.last.done))
      have HC := hid (chg_put15 w26 b25 (.int .i64 c.th) (.int .i64 c.sl) (.int .i64 c.cp) (.int .i64 c.he) (.int .i64 c.ke) (.int .i64 c.ev) (.int .i64 c.la) (.slice A1 B1.cells.length cap1) (.int .i64 B1.count) (.int .i64 B1.last.kind) (.int .i64 B1.last.cell) (.int .u64 B1.last.via) (.int .u64 B1.last.old) (.int .u64 B1.last.new) (.bool B1.last.done))
      have C31 : Hid (Gr W0 (((((((((((((((w26.setCell ⟨b25, 0, none⟩ (.int .i64 c.th)).setCell ⟨b25, 1, none⟩ (.int .i64 c.sl)).setCell ⟨b25, 2, none⟩ (.int .i64 c.cp)).setCell ⟨b25, 3, none⟩ (.int .i64 c.he)).setCell ⟨b25, 4, none⟩ (.int .i64 c.ke)).setCell ⟨b25, 5, none⟩ (.int .i64 c.ev)).setCell ⟨b25, 6, none⟩ (.int .i64 c.la)).setCell ⟨b25, 7, none⟩ (.slice A1 B1.cells.length cap1)).setCell ⟨b25, 8, none⟩ (.int .i64 B1.count)).setCell ⟨b25, 9, none⟩ (.int .i64 B1.last.kind)).setCell ⟨b25, 10, none⟩ (.int .i64 B1.last.cell)).setCell ⟨b25, 11, none⟩ (.int .u64 B1.last.via)).setCell ⟨b25, 12, none⟩ (.int .u64 B1.last.old)).setCell ⟨b25, 13, none⟩ (.int .u64 B1.last.new)).setCell ⟨b25, 14, none⟩ (.bool B1.last.done))) := hid ((C27.out).step HC.out (by rintro i rfl; exact BG.out))
      have HW2 := hid (HW.out.keep HC.out (fun a n c e _ => NB.out a n c e))
      clear z0 z1 z2 z3 z4 z5 z6 z7 z8 z9 z10 z11 z12 z13 z14 hbl hbf
      generalize (((((((((((((((w26.setCell ⟨b25, 0, none⟩ (.int .i64 c.th)).setCell ⟨b25, 1, none⟩ (.int .i64 c.sl)).setCell ⟨b25, 2, none⟩ (.int .i64 c.cp)).setCell ⟨b25, 3, none⟩ (.int .i64 c.he)).setCell ⟨b25, 4, none⟩ (.int .i64 c.ke)).setCell ⟨b25, 5, none⟩ (.int .i64 c.ev)).setCell ⟨b25, 6, none⟩ (.int .i64 c.la)).setCell ⟨b25, 7, none⟩ (.slice A1 B1.cells.length cap1)).setCell ⟨b25, 8, none⟩ (.int .i64 B1.count)).setCell ⟨b25, 9, none⟩ (.int .i64 B1.last.kind)).setCell ⟨b25, 10, none⟩ (.int .i64 B1.last.cell)).setCell ⟨b25, 11, none⟩ (.int .u64 B1.last.via)).setCell ⟨b25, 12, none⟩ (.int .u64 B1.last.old)).setCell ⟨b25, 13, none⟩ (.int .u64 B1.last.new)).setCell ⟨b25, 14, none⟩ (.bool B1.last.done)) = w30 at *
      refine ⟨C31.out, ?_⟩
      refine anyC_quiet (a1 := ?a33) (by kernel_rfl) 0 [17] _ _ _ (by kernel_rfl) (by kernel_rfl) C31.out ?_ ?_
      rotate_left
      · intro w' g'
        have hne : Nonempty (St (· = w')) := ⟨⟨w', rfl⟩⟩
        clear g'
        conv => arg 5; simp only [picked, List.filterMap_cons, List.filterMap_nil, List.getElem?_toArray, List.getElem?_cons_zero, List.getElem?_cons_succ]
        show wpQuiet _ _ _ _ [_] _
        repeat (go_big_quiet_step (fail))
        refine wpQuiet_nil ?_
        rfl
      refine ⟨by kernel_rfl, ?_⟩
      have GW1 := hid (Gr.trans G0.out C31.out)
      have D2 := hid (A2.out.gr C31.out)
      have D4 := hid (A4.out.gr C31.out)
      have D5 := hid (A5.out.gr C31.out)
      have hmd := HMD.out
      go_wp2_with fail
      clear hmd
      have HI := And.intro (⟨D2.out, B32.out, Chg.refl _ _⟩ : Cls w.heap.size W0.heap.size w30 x2 b25 #[.int .u64 h, .int .i64 2, .int .i64 lv, .int .u64 z, .bool false] #[.int .i64 c.th, .int .i64 c.sl, .int .i64 c.cp, .int .i64 c.he, .int .i64 c.ke, .int .i64 c.ev, .int .i64 c.la, .slice A1 B1.cells.length cap1, .int .i64 B1.count, .int .i64 B1.last.kind, .int .i64 B1.last.cell, .int .u64 B1.last.via, .int .u64 B1.last.old, .int .u64 B1.last.new, .bool B1.last.done] w30) (And.intro D4.out D5.out)
      have HC := hid HI.1.drew
      have D4 := hid HI.2.1.drew
      have D5 := hid HI.2.2.drew
      clear HI
      refine wp_region_anyC (n := 5) (Cls w.heap.size W0.heap.size w30 x2 b25 #[.int .u64 h, .int .i64 2, .int .i64 lv, .int .u64 z, .bool false] #[.int .i64 c.th, .int .i64 c.sl, .int .i64 c.cp, .int .i64 c.he, .int .i64 c.ke, .int .i64 c.ev, .int .i64 c.la, .slice A1 B1.cells.length cap1, .int .i64 B1.count, .int .i64 B1.last.kind, .int .i64 B1.last.cell, .int .u64 B1.last.via, .int .u64 B1.last.old, .int .u64 B1.last.new, .bool B1.last.done]) (by kernel_rfl) rfl ?_
      generalize World.drew _ = Wd at *
      refine anyC_quiet (a1 := ?a34) (by kernel_rfl) 3 [0, 2] _ _ _ (by kernel_rfl) (by kernel_rfl) HC.out ?_ ?_
      rotate_left
      · intro w' g'
        have hne : Nonempty (St (· = w')) := ⟨⟨w', rfl⟩⟩
        have X3 := g'.x
        obtain ⟨u0, u1, u2, u3, u4⟩ := st5 (X3)
        clear X3
        have X3 := g'.m
        obtain ⟨y0, y1, y2, y3, y4, y5, y6, y7, y8, y9, y10, y11, y12, y13, y14⟩ := st15 (X3)
        clear X3
        clear g'
        conv => arg 5; simp only [picked, List.filterMap_cons, List.filterMap_nil, List.getElem?_toArray, List.getElem?_cons_zero, List.getElem?_cons_succ]
        show wpQuiet _ _ _ _ [_, _] _
        repeat (go_big_quiet_step (fail))
        refine wpQuiet_nil ?_
        rfl
      refine anyC_alone 1 HC.out (by kernel_rfl) (by kernel_rfl) ?_
      conv => arg 4; simp only [picked, List.filterMap_cons, List.filterMap_nil, List.getElem?_toArray, List.getElem?_cons_zero, List.getElem?_cons_succ]
      show wpList _ _ _ [_] _ _
      go_wp2_with fail
      refine (HDN.out _).mono ?_
      rintro e We ⟨rfl, ge⟩
      have HC' := hid (HC.out.gr ge)
      have D4' := hid (Blk.gr D4.out ge)
      have D5' := hid (Blk.gr D5.out ge)
      clear ge HC D4 D5
      have HC := hid HC'.out
      have D4 := hid D4'.out
      have D5 := hid D5'.out
      clear HC' D4' D5'
      go_wp2_with fail
      refine ⟨HC.out, ?_⟩
      obtain ⟨q0, q1, q2, q3, q4⟩ := cells5 (D4.out)
      have ql := D4.out.lt
      have qf := fun i => Blk.free D4.out i
      refine anyC_alone 3 HC.out (by kernel_rfl) (by kernel_rfl) ?_
      conv => arg 4; simp only [picked, List.filterMap_cons, List.filterMap_nil, List.getElem?_toArray, List.getElem?_cons_zero, List.getElem?_cons_succ]
      show wpList _ _ _ [_] _ _
      go_wp2_with fail
      clear q0 q1 q2 q3 q4 ql qf
      have E4 : Hid (Blk (((((We.setCell ⟨x4, 0, none⟩ (.int .u64 h)).setCell ⟨x4, 1, none⟩ (.int .i64 1)).setCell ⟨x4, 2, none⟩ (.int .i64 (lv - 1))).setCell ⟨x4, 3, none⟩ (.int .u64 z)).setCell ⟨x4, 4, none⟩ (.bool (lv == 0))) x4 #[.int .u64 h, .int .i64 1, .int .i64 (lv - 1), .int .u64 z, .bool (lv == 0)] 84) := hid (blk_put5 D4.out (.int .u64 h) (.int .i64 1) (.int .i64 (lv - 1)) (.int .u64 z) (.bool (lv == 0)))
      have HC4 := hid (chg_put5 We x4 (.int .u64 h) (.int .i64 1) (.int .i64 (lv - 1)) (.int .u64 z) (.bool (lv == 0)))
      have E5 := hid (Blk.chg D5.out HC4.out (by have := XS.out; omega))
      have HC2 := hid (HC.out.put HC4.out (by have := XS.out; omega) (by have := BG.out; have := XS.out; omega) (by have := XS.out; omega) (by have := XS.out; omega))
      generalize (((((We.setCell ⟨x4, 0, none⟩ (.int .u64 h)).setCell ⟨x4, 1, none⟩ (.int .i64 1)).setCell ⟨x4, 2, none⟩ (.int .i64 (lv - 1))).setCell ⟨x4, 3, none⟩ (.int .u64 z)).setCell ⟨x4, 4, none⟩ (.bool (lv == 0))) = Wf at *
      clear HC HC4 D4 D5
      refine ⟨HC2.out, ?_⟩
      obtain ⟨q0, q1, q2, q3, q4, q5, q6, q7, q8, q9, q10, q11, q12, q13, q14⟩ := cells15 (E5.out)
      have ql := E5.out.lt
      have qf := fun i => Blk.free E5.out i
      refine anyC_alone 4 HC2.out (by kernel_rfl) (by kernel_rfl) ?_
      conv => arg 4; simp only [picked, List.filterMap_cons, List.filterMap_nil, List.getElem?_toArray, List.getElem?_cons_zero, List.getElem?_cons_succ]
      show wpList _ _ _ [_] _ _
      go_wp2_with fail
      clear q0 q1 q2 q3 q4 q5 q6 q7 q8 q9 q10 q11 q12 q13 q14 ql qf
      have F5 : Hid (Blk (((((((((((((((Wf.setCell ⟨x5, 0, none⟩ (.int .i64 c.th)).setCell ⟨x5, 1, none⟩ (.int .i64 c.sl)).setCell ⟨x5, 2, none⟩ (.int .i64 c.cp)).setCell ⟨x5, 3, none⟩ (.int .i64 c.he)).setCell ⟨x5, 4, none⟩ (.int .i64 c.ke)).setCell ⟨x5, 5, none⟩ (.int .i64 c.ev)).setCell ⟨x5, 6, none⟩ (.int .i64 c.la)).setCell ⟨x5, 7, none⟩ (.slice A1 B1.cells.length cap1)).setCell ⟨x5, 8, none⟩ (.int .i64 B1.count)).setCell ⟨x5, 9, none⟩ (.int .i64 B1.last.kind)).setCell ⟨x5, 10, none⟩ (.int .i64 B1.last.cell)).setCell ⟨x5, 11, none⟩ (.int .u64 B1.last.via)).setCell ⟨x5, 12, none⟩ (.int .u64 B1.last.old)).setCell ⟨x5, 13, none⟩ (.int .u64 B1.last.new)).setCell ⟨x5, 14, none⟩ (.bool B1.last.done)) x5 #[.int .i64 c.th, .int .i64 c.sl, .int .i64 c.cp, .int .i64 c.he, .int .i64 c.ke, .int .i64 c.ev, .int .i64 c.la, .slice A1 B1.cells.length cap1, .int .i64 B1.count, .int .i64 B1.last.kind, .int .i64 B1.last.cell, .int .u64 B1.last.via, .int .u64 B1.last.old, .int .u64 B1.last.new, .bool B1.last.done] 50) := hid (blk_put15 E5.out (.int .i64 c.th) (.int .i64 c.sl) (.int .i64 c.cp) (.int .i64 c.he) (.int .i64 c.ke) (.int .i64 c.ev) (.int .i64 c.la) (.slice A1 B1.cells.length cap1) (.int .i64 B1.count) (.int .i64 B1.last.kind) (.int .i64 B1.last.cell) (.int .u64 B1.last.via) (.int .u64 B1.last.old) (.int .u64 B1.last.new) (.bool B1.last.done))
      have HC5 := hid (chg_put15 Wf x5 (.int .i64 c.th) (.int .i64 c.sl) (.int .i64 c.cp) (.int .i64 c.he) (.int .i64 c.ke) (.int .i64 c.ev) (.int .i64 c.la) (.slice A1 B1.cells.length cap1) (.int .i64 B1.count) (.int .i64 B1.last.kind) (.int .i64 B1.last.cell) (.int .u64 B1.last.via) (.int .u64 B1.last.old) (.int .u64 B1.last.new) (.bool B1.last.done))
      have F4 := hid (Blk.chg E4.out HC5.out (by have := XS.out; omega))
      have HC3 := hid (HC2.out.put HC5.out (by have := XS.out; omega) (by have := BG.out; have := XS.out; omega) (by have := XS.out; omega) (by have := XS.out; omega))
      generalize (((((((((((((((Wf.setCell ⟨x5, 0, none⟩ (.int .i64 c.th)).setCell ⟨x5, 1, none⟩ (.int .i64 c.sl)).setCell ⟨x5, 2, none⟩ (.int .i64 c.cp)).setCell ⟨x5, 3, none⟩ (.int .i64 c.he)).setCell ⟨x5, 4, none⟩ (.int .i64 c.ke)).setCell ⟨x5, 5, none⟩ (.int .i64 c.ev)).setCell ⟨x5, 6, none⟩ (.int .i64 c.la)).setCell ⟨x5, 7, none⟩ (.slice A1 B1.cells.length cap1)).setCell ⟨x5, 8, none⟩ (.int .i64 B1.count)).setCell ⟨x5, 9, none⟩ (.int .i64 B1.last.kind)).setCell ⟨x5, 10, none⟩ (.int .i64 B1.last.cell)).setCell ⟨x5, 11, none⟩ (.int .u64 B1.last.via)).setCell ⟨x5, 12, none⟩ (.int .u64 B1.last.old)).setCell ⟨x5, 13, none⟩ (.int .u64 B1.last.new)).setCell ⟨x5, 14, none⟩ (.bool B1.last.done)) = Wg at *
      clear HC2 HC5 E4 E5
      refine ⟨HC3.out, ?_⟩
      refine ⟨by kernel_rfl, ?_⟩
      go_wp2_with fail
      refine bodyPost_ret (v := .tuple #[RHS.val ⟨h, 1, lv - 1, z, lv == 0⟩, mval c (.slice A1 B1.cells.length cap1) B1]) (res45 _ x4 x5 _ ⟨h, 1, lv - 1, z, lv == 0⟩ c (.slice A1 B1.cells.length cap1) B1 ⟨_, _, _, rfl⟩ rfl rfl F4.out F5.out) rfl ⟨(.slice A1 B1.cells.length cap1), rfl, ?_, ?_, HF.out⟩
      · exact HW2.out.keep HC3.out.chg (fun a n cc e _ hk => NX.out a n cc e _ hk.1 hk.2 rfl)
      · exact Gr.step GW1.out HC3.out.chg (fun k hk => hk.1)
  · conv => arg 4; simp only [picked, List.filterMap_cons, List.filterMap_nil, List.getElem?_toArray, List.getElem?_cons_zero, List.getElem?_cons_succ]
    show wpList _ _ _ [_] _ _
    go_wp2_with fail
    have C36 : Hid (Gr W0 (wd.alloc (.cells #[.int .i64 0, .int .i64 0, .int .i64 0, .int .i64 0, .int .i64 0, .int .i64 0, .int .i64 0, .slice none 0 0, .int .i64 0, .int .i64 0, .int .i64 0, .int .u64 0, .int .u64 0, .int .u64 0, .bool false] 50))) := hid ((CD.out).alloc _)
    have B37 : Hid (Blk (wd.alloc (.cells #[.int .i64 0, .int .i64 0, .int .i64 0, .int .i64 0, .int .i64 0, .int .i64 0, .int .i64 0, .slice none 0 0, .int .i64 0, .int .i64 0, .int .i64 0, .int .u64 0, .int .u64 0, .int .u64 0, .bool false] 50)) wd.heap.size #[.int .i64 0, .int .i64 0, .int .i64 0, .int .i64 0, .int .i64 0, .int .i64 0, .int .i64 0, .slice none 0 0, .int .i64 0, .int .i64 0, .int .i64 0, .int .u64 0, .int .u64 0, .int .u64 0, .bool false] 50) := hid (Blk.new' (by simp))
    have BG : Hid (W0.heap.size ≤ wd.heap.size) := hid ((CD.out).size)
    refine ⟨C36.out, ?_⟩
    generalize (wd.alloc (.cells #[.int .i64 0, .int .i64 0, .int .i64 0, .int .i64 0, .int .i64 0, .int .i64 0, .int .i64 0, .slice none 0 0, .int .i64 0, .int .i64 0, .int .i64 0, .int .u64 0, .int .u64 0, .int .u64 0, .bool false] 50)) = w35 at *
    generalize hbe : wd.heap.size = b38 at *
    have BE := hid hbe
    clear hbe
    refine anyC_alone 10 C36.out (by kernel_rfl) (by kernel_rfl) ?_
    conv => arg 4; simp only [picked, List.filterMap_cons, List.filterMap_nil, List.getElem?_toArray, List.getElem?_cons_zero, List.getElem?_cons_succ]
    show wpList _ _ _ [_] _ _
    go_wp2_with fail
    refine (HMK.out _).mono ?_
    rintro e w39 ⟨rfl, gw39⟩
    have C40 := hid (Gr.trans C36.out gw39)
    have B41 := hid (Blk.gr B37.out gw39)
    clear gw39
    go_wp2_with fail
    refine ⟨C40.out, ?_⟩
    refine anyC_alone 11 C40.out (by kernel_rfl) (by kernel_rfl) ?_
    conv => arg 4; simp only [picked, List.filterMap_cons, List.filterMap_nil, List.getElem?_toArray, List.getElem?_cons_zero, List.getElem?_cons_succ]
    show wpList _ _ _ [_] _ _
    go_wp2_with fail
    refine (hld.out _ (HV.out.gr (Gr.trans G0.out C40.out))).mono ?_
    rintro e w42 ⟨s1, rfl, hw1, gw42, hf1⟩
    have C43 := hid (Gr.trans C40.out gw42)
    have B44 := hid (Blk.gr B41.out gw42)
    obtain ⟨A1, cap1, rfl⟩ := hw1.slice
    have HW := hid hw1
    have NX := hid (Fresh.nx (hi := W0.heap.size) hf1 HV.out HN.out (C40.out).size)
    have HF := hid (Fresh.mono hf1 (Gr.trans G0.out C40.out).size)
    have NB := hid (hf1.apart (w1 := w) (w0 := w) HV.out b38 (by have := BG.out; have := XS.out; omega) (by have := B41.out.lt; omega) HN.out)
    clear hw1 hf1
    unfold mval
    clear gw42
    go_wp2_with fail
    refine ⟨C43.out, ?_⟩
    refine anyC_quiet (a1 := ?a45) (by kernel_rfl) 2 [12, 13, 14] _ _ _ (by kernel_rfl) (by kernel_rfl) C43.out ?_ ?_
    rotate_left
    · intro w' g'
      have hne : Nonempty (St (· = w')) := ⟨⟨w', rfl⟩⟩
      clear g'
      conv => arg 5; simp only [picked, List.filterMap_cons, List.filterMap_nil, List.getElem?_toArray, List.getElem?_cons_zero, List.getElem?_cons_succ]
      show wpQuiet _ _ _ _ [_, _, _] _
      repeat (go_big_quiet_step (fail))
      refine wpQuiet_nil ?_
      rfl
    have hbl := B44.out.lt
    have hbf := fun i => Blk.free B44.out i
    obtain ⟨z0, z1, z2, z3, z4, z5, z6, z7, z8, z9, z10, z11, z12, z13, z14⟩ := cells15 (B44.out)
    refine anyC_alone 16 C43.out (by kernel_rfl) (by kernel_rfl) ?_
    conv => arg 4; simp only [picked, List.filterMap_cons, List.filterMap_nil, List.getElem?_toArray, List.getElem?_cons_zero, List.getElem?_cons_succ]
    show wpList _ _ _ [_] _ _
    go_wp2_with fail
    have B48 := hid (blk_put15 B44.out (.int .i64 c.th) (.int .i64 c.sl) (.int .i64 c.cp) (.int .i64 c.he) (.int .i64 c.ke) (.int .i64 c.ev) (.int .i64 c.la) (.slice A1 B1.cells.length cap1) (.int .i64 B1.count) (.int .i64 B1.last.kind) (.int .i64 B1.last.cell) (.int .u64 B1.last.via) (.int .u64 B1.last.old) (.int .u64 B1.last.new) (.bool B1.last.done))
    have HC := hid (chg_put15 w42 b38 (.int .i64 c.th) (.int .i64 c.sl) (.int .i64 c.cp) (.int .i64 c.he) (.int .i64 c.ke) (.int .i64 c.ev) (.int .i64 c.la) (.slice A1 B1.cells.length cap1) (.int .i64 B1.count) (.int .i64 B1.last.kind) (.int .i64 B1.last.cell) (.int .u64 B1.last.via) (.int .u64 B1.last.old) (.int .u64 B1.last.new) (.bool B1.last.done))
    have C47 : Hid (Gr W0 (((((((((((((((w42.setCell ⟨b38, 0, none⟩ (.int .i64 c.th)).setCell ⟨b38, 1, none⟩ (.int .i64 c.sl)).setCell ⟨b38, 2, none⟩ (.int .i64 c.cp)).setCell ⟨b38, 3, none⟩ (.int .i64 c.he)).setCell ⟨b38, 4, none⟩ (.int .i64 c.ke)).setCell ⟨b38, 5, none⟩ (.int .i64 c.ev)).setCell ⟨b38, 6, none⟩ (.int .i64 c.la)).setCell ⟨b38, 7, none⟩ (.slice A1 B1.cells.length cap1)).setCell ⟨b38, 8, none⟩ (.int .i64 B1.count)).setCell ⟨b38, 9, none⟩ (.int .i64 B1.last.kind)).setCell ⟨b38, 10, none⟩ (.int .i64 B1.last.cell)).setCell ⟨b38, 11, none⟩ (.int .u64 B1.last.via)).setCell ⟨b38, 12, none⟩ (.int .u64 B1.last.old)).setCell ⟨b38, 13, none⟩ (.int .u64 B1.last.new)).setCell ⟨b38, 14, none⟩ (.bool B1.last.done))) := hid ((C43.out).step HC.out (by rintro i rfl; exact BG.out))
    have HW2 := hid (HW.out.keep HC.out (fun a n c e _ => NB.out a n c e))
    clear z0 z1 z2 z3 z4 z5 z6 z7 z8 z9 z10 z11 z12 z13 z14 hbl hbf
    generalize (((((((((((((((w42.setCell ⟨b38, 0, none⟩ (.int .i64 c.th)).setCell ⟨b38, 1, none⟩ (.int .i64 c.sl)).setCell ⟨b38, 2, none⟩ (.int .i64 c.cp)).setCell ⟨b38, 3, none⟩ (.int .i64 c.he)).setCell ⟨b38, 4, none⟩ (.int .i64 c.ke)).setCell ⟨b38, 5, none⟩ (.int .i64 c.ev)).setCell ⟨b38, 6, none⟩ (.int .i64 c.la)).setCell ⟨b38, 7, none⟩ (.slice A1 B1.cells.length cap1)).setCell ⟨b38, 8, none⟩ (.int .i64 B1.count)).setCell ⟨b38, 9, none⟩ (.int .i64 B1.last.kind)).setCell ⟨b38, 10, none⟩ (.int .i64 B1.last.cell)).setCell ⟨b38, 11, none⟩ (.int .u64 B1.last.via)).setCell ⟨b38, 12, none⟩ (.int .u64 B1.last.old)).setCell ⟨b38, 13, none⟩ (.int .u64 B1.last.new)).setCell ⟨b38, 14, none⟩ (.bool B1.last.done)) = w46 at *
    refine ⟨C47.out, ?_⟩
    refine anyC_quiet (a1 := ?a49) (by kernel_rfl) 0 [17] _ _ _ (by kernel_rfl) (by kernel_rfl) C47.out ?_ ?_
    rotate_left
    · intro w' g'
      have hne : Nonempty (St (· = w')) := ⟨⟨w', rfl⟩⟩
      clear g'
      conv => arg 5; simp only [picked, List.filterMap_cons, List.filterMap_nil, List.getElem?_toArray, List.getElem?_cons_zero, List.getElem?_cons_succ]
      show wpQuiet _ _ _ _ [_] _
      repeat (go_big_quiet_step (fail))
      refine wpQuiet_nil ?_
      rfl
    refine ⟨by kernel_rfl, ?_⟩
    have GW1 := hid (Gr.trans G0.out C47.out)
    have D2 := hid (A2.out.gr C47.out)
    have D4 := hid (A4.out.gr C47.out)
    have D5 := hid (A5.out.gr C47.out)
    have hmd := HMD.out
    go_wp2_with fail
    clear hmd
    have HI := And.intro (⟨D2.out, B48.out, Chg.refl _ _⟩ : Cls w.heap.size W0.heap.size w46 x2 b38 #[.int .u64 h, .int .i64 2, .int .i64 lv, .int .u64 z, .bool false] #[.int .i64 c.th, .int .i64 c.sl, .int .i64 c.cp, .int .i64 c.he, .int .i64 c.ke, .int .i64 c.ev, .int .i64 c.la, .slice A1 B1.cells.length cap1, .int .i64 B1.count, .int .i64 B1.last.kind, .int .i64 B1.last.cell, .int .u64 B1.last.via, .int .u64 B1.last.old, .int .u64 B1.last.new, .bool B1.last.done] w46) (And.intro D4.out D5.out)
    have HC := hid HI.1.drew
    have D4 := hid HI.2.1.drew
    have D5 := hid HI.2.2.drew
    clear HI
    refine wp_region_anyC (n := 5) (Cls w.heap.size W0.heap.size w46 x2 b38 #[.int .u64 h, .int .i64 2, .int .i64 lv, .int .u64 z, .bool false] #[.int .i64 c.th, .int .i64 c.sl, .int .i64 c.cp, .int .i64 c.he, .int .i64 c.ke, .int .i64 c.ev, .int .i64 c.la, .slice A1 B1.cells.length cap1, .int .i64 B1.count, .int .i64 B1.last.kind, .int .i64 B1.last.cell, .int .u64 B1.last.via, .int .u64 B1.last.old, .int .u64 B1.last.new, .bool B1.last.done]) (by kernel_rfl) rfl ?_
    generalize World.drew _ = Wd at *
    refine anyC_quiet (a1 := ?a50) (by kernel_rfl) 3 [0, 2] _ _ _ (by kernel_rfl) (by kernel_rfl) HC.out ?_ ?_
    rotate_left
    · intro w' g'
      have hne : Nonempty (St (· = w')) := ⟨⟨w', rfl⟩⟩
      have X3 := g'.x
      obtain ⟨u0, u1, u2, u3, u4⟩ := st5 (X3)
      clear X3
      have X3 := g'.m
      obtain ⟨y0, y1, y2, y3, y4, y5, y6, y7, y8, y9, y10, y11, y12, y13, y14⟩ := st15 (X3)
      clear X3
      clear g'
      conv => arg 5; simp only [picked, List.filterMap_cons, List.filterMap_nil, List.getElem?_toArray, List.getElem?_cons_zero, List.getElem?_cons_succ]
      show wpQuiet _ _ _ _ [_, _] _
      repeat (go_big_quiet_step (fail))
      refine wpQuiet_nil ?_
      rfl
    refine anyC_alone 1 HC.out (by kernel_rfl) (by kernel_rfl) ?_
    conv => arg 4; simp only [picked, List.filterMap_cons, List.filterMap_nil, List.getElem?_toArray, List.getElem?_cons_zero, List.getElem?_cons_succ]
    show wpList _ _ _ [_] _ _
    go_wp2_with fail
    refine (HDN.out _).mono ?_
    rintro e We ⟨rfl, ge⟩
    have HC' := hid (HC.out.gr ge)
    have D4' := hid (Blk.gr D4.out ge)
    have D5' := hid (Blk.gr D5.out ge)
    clear ge HC D4 D5
    have HC := hid HC'.out
    have D4 := hid D4'.out
    have D5 := hid D5'.out
    clear HC' D4' D5'
    go_wp2_with fail
    refine ⟨HC.out, ?_⟩
    obtain ⟨q0, q1, q2, q3, q4⟩ := cells5 (D4.out)
    have ql := D4.out.lt
    have qf := fun i => Blk.free D4.out i
    refine anyC_alone 3 HC.out (by kernel_rfl) (by kernel_rfl) ?_
    conv => arg 4; simp only [picked, List.filterMap_cons, List.filterMap_nil, List.getElem?_toArray, List.getElem?_cons_zero, List.getElem?_cons_succ]
    show wpList _ _ _ [_] _ _
    go_wp2_with fail
    clear q0 q1 q2 q3 q4 ql qf
    have E4 : Hid (Blk (((((We.setCell ⟨x4, 0, none⟩ (.int .u64 h)).setCell ⟨x4, 1, none⟩ (.int .i64 1)).setCell ⟨x4, 2, none⟩ (.int .i64 (lv - 1))).setCell ⟨x4, 3, none⟩ (.int .u64 z)).setCell ⟨x4, 4, none⟩ (.bool (lv == 0))) x4 #[.int .u64 h, .int .i64 1, .int .i64 (lv - 1), .int .u64 z, .bool (lv == 0)] 84) := hid (blk_put5 D4.out (.int .u64 h) (.int .i64 1) (.int .i64 (lv - 1)) (.int .u64 z) (.bool (lv == 0)))
    have HC4 := hid (chg_put5 We x4 (.int .u64 h) (.int .i64 1) (.int .i64 (lv - 1)) (.int .u64 z) (.bool (lv == 0)))
    have E5 := hid (Blk.chg D5.out HC4.out (by have := XS.out; omega))
    have HC2 := hid (HC.out.put HC4.out (by have := XS.out; omega) (by have := BG.out; have := XS.out; omega) (by have := XS.out; omega) (by have := XS.out; omega))
    generalize (((((We.setCell ⟨x4, 0, none⟩ (.int .u64 h)).setCell ⟨x4, 1, none⟩ (.int .i64 1)).setCell ⟨x4, 2, none⟩ (.int .i64 (lv - 1))).setCell ⟨x4, 3, none⟩ (.int .u64 z)).setCell ⟨x4, 4, none⟩ (.bool (lv == 0))) = Wf at *
    clear HC HC4 D4 D5
    refine ⟨HC2.out, ?_⟩
    obtain ⟨q0, q1, q2, q3, q4, q5, q6, q7, q8, q9, q10, q11, q12, q13, q14⟩ := cells15 (E5.out)
    have ql := E5.out.lt
    have qf := fun i => Blk.free E5.out i
    refine anyC_alone 4 HC2.out (by kernel_rfl) (by kernel_rfl) ?_
    conv => arg 4; simp only [picked, List.filterMap_cons, List.filterMap_nil, List.getElem?_toArray, List.getElem?_cons_zero, List.getElem?_cons_succ]
    show wpList _ _ _ [_] _ _
    go_wp2_with fail
    clear q0 q1 q2 q3 q4 q5 q6 q7 q8 q9 q10 q11 q12 q13 q14 ql qf
    have F5 : Hid (Blk (((((((((((((((Wf.setCell ⟨x5, 0, none⟩ (.int .i64 c.th)).setCell ⟨x5, 1, none⟩ (.int .i64 c.sl)).setCell ⟨x5, 2, none⟩ (.int .i64 c.cp)).setCell ⟨x5, 3, none⟩ (.int .i64 c.he)).setCell ⟨x5, 4, none⟩ (.int .i64 c.ke)).setCell ⟨x5, 5, none⟩ (.int .i64 c.ev)).setCell ⟨x5, 6, none⟩ (.int .i64 c.la)).setCell ⟨x5, 7, none⟩ (.slice A1 B1.cells.length cap1)).setCell ⟨x5, 8, none⟩ (.int .i64 B1.count)).setCell ⟨x5, 9, none⟩ (.int .i64 B1.last.kind)).setCell ⟨x5, 10, none⟩ (.int .i64 B1.last.cell)).setCell ⟨x5, 11, none⟩ (.int .u64 B1.last.via)).setCell ⟨x5, 12, none⟩ (.int .u64 B1.last.old)).setCell ⟨x5, 13, none⟩ (.int .u64 B1.last.new)).setCell ⟨x5, 14, none⟩ (.bool B1.last.done)) x5 #[.int .i64 c.th, .int .i64 c.sl, .int .i64 c.cp, .int .i64 c.he, .int .i64 c.ke, .int .i64 c.ev, .int .i64 c.la, .slice A1 B1.cells.length cap1, .int .i64 B1.count, .int .i64 B1.last.kind, .int .i64 B1.last.cell, .int .u64 B1.last.via, .int .u64 B1.last.old, .int .u64 B1.last.new, .bool B1.last.done] 50) := hid (blk_put15 E5.out (.int .i64 c.th) (.int .i64 c.sl) (.int .i64 c.cp) (.int .i64 c.he) (.int .i64 c.ke) (.int .i64 c.ev) (.int .i64 c.la) (.slice A1 B1.cells.length cap1) (.int .i64 B1.count) (.int .i64 B1.last.kind) (.int .i64 B1.last.cell) (.int .u64 B1.last.via) (.int .u64 B1.last.old) (.int .u64 B1.last.new) (.bool B1.last.done))
    have HC5 := hid (chg_put15 Wf x5 (.int .i64 c.th) (.int .i64 c.sl) (.int .i64 c.cp) (.int .i64 c.he) (.int .i64 c.ke) (.int .i64 c.ev) (.int .i64 c.la) (.slice A1 B1.cells.length cap1) (.int .i64 B1.count) (.int .i64 B1.last.kind) (.int .i64 B1.last.cell) (.int .u64 B1.last.via) (.int .u64 B1.last.old) (.int .u64 B1.last.new) (.bool B1.last.done))
    have F4 := hid (Blk.chg E4.out HC5.out (by have := XS.out; omega))
    have HC3 := hid (HC2.out.put HC5.out (by have := XS.out; omega) (by have := BG.out; have := XS.out; omega) (by have := XS.out; omega) (by have := XS.out; omega))
    generalize (((((((((((((((Wf.setCell ⟨x5, 0, none⟩ (.int .i64 c.th)).setCell ⟨x5, 1, none⟩ (.int .i64 c.sl)).setCell ⟨x5, 2, none⟩ (.int .i64 c.cp)).setCell ⟨x5, 3, none⟩ (.int .i64 c.he)).setCell ⟨x5, 4, none⟩ (.int .i64 c.ke)).setCell ⟨x5, 5, none⟩ (.int .i64 c.ev)).setCell ⟨x5, 6, none⟩ (.int .i64 c.la)).setCell ⟨x5, 7, none⟩ (.slice A1 B1.cells.length cap1)).setCell ⟨x5, 8, none⟩ (.int .i64 B1.count)).setCell ⟨x5, 9, none⟩ (.int .i64 B1.last.kind)).setCell ⟨x5, 10, none⟩ (.int .i64 B1.last.cell)).setCell ⟨x5, 11, none⟩ (.int .u64 B1.last.via)).setCell ⟨x5, 12, none⟩ (.int .u64 B1.last.old)).setCell ⟨x5, 13, none⟩ (.int .u64 B1.last.new)).setCell ⟨x5, 14, none⟩ (.bool B1.last.done)) = Wg at *
    clear HC2 HC5 E4 E5
    refine ⟨HC3.out, ?_⟩
    refine ⟨by kernel_rfl, ?_⟩
    go_wp2_with fail
    refine bodyPost_ret (v := .tuple #[RHS.val ⟨h, 1, lv - 1, z, lv == 0⟩, mval c (.slice A1 B1.cells.length cap1) B1]) (res45 _ x4 x5 _ ⟨h, 1, lv - 1, z, lv == 0⟩ c (.slice A1 B1.cells.length cap1) B1 ⟨_, _, _, rfl⟩ rfl rfl F4.out F5.out) rfl ⟨(.slice A1 B1.cells.length cap1), rfl, ?_, ?_, HF.out⟩
    · exact HW2.out.keep HC3.out.chg (fun a n cc e _ hk => NX.out a n cc e _ hk.1 hk.2 rfl)
    · exact Gr.step GW1.out HC3.out.chg (fun k hk => hk.1)

set_option maxRecDepth 100000 in
set_option maxHeartbeats 2000000 in
theorem rstep_mark_no (c : Cf) (s : Value) (B : Bk) (h nx lv z : Int) (dn : Bool) (w : World) (hv : Words w s B.cells) (hne : B.cells ≠ []) (hd : dn = false) (hn : nx = 2) (hl0 : 0 ≤ lv) (hl1 : lv ≤ 10) (B1 : Bk) (hu : U64 z) (hm : B1.last.done = false) (hl : ∀ s w, Words w s B.cells → Calls Try.prog 71 #[mval c s B, .int .u64 h, .int .i64 (wrap64 (6 + lv)), .int .u64 z, .int .u64 (hMk z)] w (MTold w c s B1 (.bool B1.last.done))) :
    Calls Try.prog 45 #[.agg #[.int .u64 h, .int .i64 nx, .int .i64 lv, .int .u64 z, .bool dn], mval c s B] w (STold w c s ⟨h, 1, lv, z, false⟩ B1) := by
  obtain ⟨A, cap, rfl⟩ := hv.slice
  have HV := hid hv
  have HN := hid hne
  clear hv hne
  have hld := hid (hl (.slice A B.cells.length cap))
  have HMK := hid (rmark_any z hu)
  have HMD := hid hm
  have HDN := hid (rdown_any h 2 lv z false hl0 hl1)
  clear hl hl0 hl1 hu hm
  unfold mval at hld
  generalize hMk z = mz at *
  subst hd
  subst hn
  unfold mval
  go_enter Try.func45, Try.ntmps45
  go_wp2_with fail
  have G0 := hid (((((Gr.refl w).alloc (.cells #[.int .u64 h, .int .i64 2, .int .i64 lv, .int .u64 z, .bool false] 84)).alloc (.cells #[.int .i64 c.th, .int .i64 c.sl, .int .i64 c.cp, .int .i64 c.he, .int .i64 c.ke, .int .i64 c.ev, .int .i64 c.la, .slice A B.cells.length cap, .int .i64 B.count, .int .i64 B.last.kind, .int .i64 B.last.cell, .int .u64 B.last.via, .int .u64 B.last.old, .int .u64 B.last.new, .bool B.last.done] 50)).alloc (.cells #[.int .u64 0, .int .i64 0, .int .i64 0, .int .u64 0, .bool false] 84)).alloc (.cells #[.int .i64 0, .int .i64 0, .int .i64 0, .int .i64 0, .int .i64 0, .int .i64 0, .int .i64 0, .slice none 0 0, .int .i64 0, .int .i64 0, .int .i64 0, .int .u64 0, .int .u64 0, .int .u64 0, .bool false] 50))
  have A2 : Hid (Blk ((((w.alloc (.cells #[.int .u64 h, .int .i64 2, .int .i64 lv, .int .u64 z, .bool false] 84)).alloc (.cells #[.int .i64 c.th, .int .i64 c.sl, .int .i64 c.cp, .int .i64 c.he, .int .i64 c.ke, .int .i64 c.ev, .int .i64 c.la, .slice A B.cells.length cap, .int .i64 B.count, .int .i64 B.last.kind, .int .i64 B.last.cell, .int .u64 B.last.via, .int .u64 B.last.old, .int .u64 B.last.new, .bool B.last.done] 50)).alloc (.cells #[.int .u64 0, .int .i64 0, .int .i64 0, .int .u64 0, .bool false] 84)).alloc (.cells #[.int .i64 0, .int .i64 0, .int .i64 0, .int .i64 0, .int .i64 0, .int .i64 0, .int .i64 0, .slice none 0 0, .int .i64 0, .int .i64 0, .int .i64 0, .int .u64 0, .int .u64 0, .int .u64 0, .bool false] 50)) w.heap.size #[.int .u64 h, .int .i64 2, .int .i64 lv, .int .u64 z, .bool false] 84) := hid ((((Blk.new w #[.int .u64 h, .int .i64 2, .int .i64 lv, .int .u64 z, .bool false] 84).alloc _).alloc _).alloc _)
  have A3 : Hid (Blk ((((w.alloc (.cells #[.int .u64 h, .int .i64 2, .int .i64 lv, .int .u64 z, .bool false] 84)).alloc (.cells #[.int .i64 c.th, .int .i64 c.sl, .int .i64 c.cp, .int .i64 c.he, .int .i64 c.ke, .int .i64 c.ev, .int .i64 c.la, .slice A B.cells.length cap, .int .i64 B.count, .int .i64 B.last.kind, .int .i64 B.last.cell, .int .u64 B.last.via, .int .u64 B.last.old, .int .u64 B.last.new, .bool B.last.done] 50)).alloc (.cells #[.int .u64 0, .int .i64 0, .int .i64 0, .int .u64 0, .bool false] 84)).alloc (.cells #[.int .i64 0, .int .i64 0, .int .i64 0, .int .i64 0, .int .i64 0, .int .i64 0, .int .i64 0, .slice none 0 0, .int .i64 0, .int .i64 0, .int .i64 0, .int .u64 0, .int .u64 0, .int .u64 0, .bool false] 50)) (w.heap.size + 1) #[.int .i64 c.th, .int .i64 c.sl, .int .i64 c.cp, .int .i64 c.he, .int .i64 c.ke, .int .i64 c.ev, .int .i64 c.la, .slice A B.cells.length cap, .int .i64 B.count, .int .i64 B.last.kind, .int .i64 B.last.cell, .int .u64 B.last.via, .int .u64 B.last.old, .int .u64 B.last.new, .bool B.last.done] 50) := hid (((Blk.new' (by simp)).alloc _).alloc _)
  have A4 : Hid (Blk ((((w.alloc (.cells #[.int .u64 h, .int .i64 2, .int .i64 lv, .int .u64 z, .bool false] 84)).alloc (.cells #[.int .i64 c.th, .int .i64 c.sl, .int .i64 c.cp, .int .i64 c.he, .int .i64 c.ke, .int .i64 c.ev, .int .i64 c.la, .slice A B.cells.length cap, .int .i64 B.count, .int .i64 B.last.kind, .int .i64 B.last.cell, .int .u64 B.last.via, .int .u64 B.last.old, .int .u64 B.last.new, .bool B.last.done] 50)).alloc (.cells #[.int .u64 0, .int .i64 0, .int .i64 0, .int .u64 0, .bool false] 84)).alloc (.cells #[.int .i64 0, .int .i64 0, .int .i64 0, .int .i64 0, .int .i64 0, .int .i64 0, .int .i64 0, .slice none 0 0, .int .i64 0, .int .i64 0, .int .i64 0, .int .u64 0, .int .u64 0, .int .u64 0, .bool false] 50)) (w.heap.size + 1 + 1) #[.int .u64 0, .int .i64 0, .int .i64 0, .int .u64 0, .bool false] 84) := hid ((Blk.new' (by simp)).alloc _)
  have A5 : Hid (Blk ((((w.alloc (.cells #[.int .u64 h, .int .i64 2, .int .i64 lv, .int .u64 z, .bool false] 84)).alloc (.cells #[.int .i64 c.th, .int .i64 c.sl, .int .i64 c.cp, .int .i64 c.he, .int .i64 c.ke, .int .i64 c.ev, .int .i64 c.la, .slice A B.cells.length cap, .int .i64 B.count, .int .i64 B.last.kind, .int .i64 B.last.cell, .int .u64 B.last.via, .int .u64 B.last.old, .int .u64 B.last.new, .bool B.last.done] 50)).alloc (.cells #[.int .u64 0, .int .i64 0, .int .i64 0, .int .u64 0, .bool false] 84)).alloc (.cells #[.int .i64 0, .int .i64 0, .int .i64 0, .int .i64 0, .int .i64 0, .int .i64 0, .int .i64 0, .slice none 0 0, .int .i64 0, .int .i64 0, .int .i64 0, .int .u64 0, .int .u64 0, .int .u64 0, .bool false] 50)) (w.heap.size + 1 + 1 + 1) #[.int .i64 0, .int .i64 0, .int .i64 0, .int .i64 0, .int .i64 0, .int .i64 0, .int .i64 0, .slice none 0 0, .int .i64 0, .int .i64 0, .int .i64 0, .int .u64 0, .int .u64 0, .int .u64 0, .bool false] 50) := hid (Blk.new' (by simp))
  generalize ((((w.alloc (.cells #[.int .u64 h, .int .i64 2, .int .i64 lv, .int .u64 z, .bool false] 84)).alloc (.cells #[.int .i64 c.th, .int .i64 c.sl, .int .i64 c.cp, .int .i64 c.he, .int .i64 c.ke, .int .i64 c.ev, .int .i64 c.la, .slice A B.cells.length cap, .int .i64 B.count, .int .i64 B.last.kind, .int .i64 B.last.cell, .int .u64 B.last.via, .int .u64 B.last.old, .int .u64 B.last.new, .bool B.last.done] 50)).alloc (.cells #[.int .u64 0, .int .i64 0, .int .i64 0, .int .u64 0, .bool false] 84)).alloc (.cells #[.int .i64 0, .int .i64 0, .int .i64 0, .int .i64 0, .int .i64 0, .int .i64 0, .int .i64 0, .slice none 0 0, .int .i64 0, .int .i64 0, .int .i64 0, .int .u64 0, .int .u64 0, .int .u64 0, .bool false] 50)) = W0 at *
  have XS0 : w.heap.size + 1 + 1 + 1 < W0.heap.size := A5.out.lt
  generalize e3 : w.heap.size + 1 = x3 at *
  generalize e4 : x3 + 1 = x4 at *
  generalize e5 : x4 + 1 = x5 at *
  generalize e2 : w.heap.size = x2 at *
  have XS : Hid (x2 = w.heap.size ∧ x2 < x3 ∧ x3 < x4 ∧ x4 < x5 ∧ x5 < W0.heap.size) := hid ⟨e2.symm, by omega, by omega, by omega, XS0⟩
  clear XS0 e2 e3 e4 e5
  refine wp_region_anyC (n := 18) (Gr W0) (by kernel_rfl) rfl ?_
  have CD := hid ((Gr.refl W0).drew)
  generalize W0.drew = wd at *
  refine anyC_quiet (a1 := ?a51) (by kernel_rfl) 8 [0, 1, 2, 3, 4, 5, 6, 7, 8, 9] _ _ _ (by kernel_rfl) (by kernel_rfl) CD.out ?_ ?_
  rotate_left
  · intro w' g'
    have hne : Nonempty (St (· = w')) := ⟨⟨w', rfl⟩⟩
    have X3 := A2.out.gr g'
    obtain ⟨u0, u1, u2, u3, u4⟩ := st5 (X3)
    clear X3
    have X3 := A3.out.gr g'
    obtain ⟨y0, y1, y2, y3, y4, y5, y6, y7, y8, y9, y10, y11, y12, y13, y14⟩ := st15 (X3)
    clear X3
    clear g'
    conv => arg 5; simp only [picked, List.filterMap_cons, List.filterMap_nil, List.getElem?_toArray, List.getElem?_cons_zero, List.getElem?_cons_succ]
    show wpQuiet _ _ _ _ [_, _, _, _, _, _, _, _, _, _] _
    repeat (go_big_quiet_step (fail))
    refine wpQuiet_nil ?_
    rfl
  refine anyC_two 10 15 CD.out (by kernel_rfl) (by kernel_rfl) (by kernel_rfl) ?_ ?_
  · conv => arg 4; simp only [picked, List.filterMap_cons, List.filterMap_nil, List.getElem?_toArray, List.getElem?_cons_zero, List.getElem?_cons_succ]
    show wpList _ _ _ [_] _ _
    go_wp2_with fail
    refine (HMK.out _).mono ?_
    rintro e w52 ⟨rfl, gw52⟩
    have C53 := hid (Gr.trans CD.out gw52)
    clear gw52
    go_wp2_with fail
    refine ⟨C53.out, ?_⟩
    refine anyC_two 11 15 C53.out (by kernel_rfl) (by kernel_rfl) (by kernel_rfl) ?_ ?_
    · conv => arg 4; simp only [picked, List.filterMap_cons, List.filterMap_nil, List.getElem?_toArray, List.getElem?_cons_zero, List.getElem?_cons_succ]
      show wpList _ _ _ [_] _ _
      go_wp2_with fail
      refine (hld.out _ (HV.out.gr (Gr.trans G0.out C53.out))).mono ?_
      rintro e w54 ⟨s1, rfl, hw1, gw54, hf1⟩
      have C55 := hid (Gr.trans C53.out gw54)
      obtain ⟨A1, cap1, rfl⟩ := hw1.slice
      have HW := hid hw1
      have NX := hid (Fresh.nx (hi := W0.heap.size) hf1 HV.out HN.out (C53.out).size)
      have HF := hid (Fresh.mono hf1 (Gr.trans G0.out C53.out).size)
      clear hw1 hf1
      unfold mval
      clear gw54
      go_wp2_with fail
      refine ⟨C55.out, ?_⟩
      refine anyC_quiet (a1 := ?a56) (by kernel_rfl) 3 [12, 13, 14] _ _ _ (by kernel_rfl) (by kernel_rfl) C55.out ?_ ?_
      rotate_left
      · intro w' g'
        have hne : Nonempty (St (· = w')) := ⟨⟨w', rfl⟩⟩
        clear g'
        conv => arg 5; simp only [picked, List.filterMap_cons, List.filterMap_nil, List.getElem?_toArray, List.getElem?_cons_zero, List.getElem?_cons_succ]
        show wpQuiet _ _ _ _ [_, _, _] _
        repeat (go_big_quiet_step (fail))
        refine wpQuiet_nil ?_
        rfl
      refine anyC_alone 15 C55.out (by kernel_rfl) (by kernel_rfl) ?_
      conv => arg 4; simp only [picked, List.filterMap_cons, List.filterMap_nil, List.getElem?_toArray, List.getElem?_cons_zero, List.getElem?_cons_succ]
      show wpList _ _ _ [_] _ _
      go_wp2_with fail
      have C58 : Hid (Gr W0 (w54.alloc (.cells #[.int .i64 0, .int .i64 0, .int .i64 0, .int .i64 0, .int .i64 0, .int .i64 0, .int .i64 0, .slice none 0 0, .int .i64 0, .int .i64 0, .int .i64 0, .int .u64 0, .int .u64 0, .int .u64 0, .bool false] 50))) := hid ((C55.out).alloc _)
      have B59 : Hid (Blk (w54.alloc (.cells #[.int .i64 0, .int .i64 0, .int .i64 0, .int .i64 0, .int .i64 0, .int .i64 0, .int .i64 0, .slice none 0 0, .int .i64 0, .int .i64 0, .int .i64 0, .int .u64 0, .int .u64 0, .int .u64 0, .bool false] 50)) w54.heap.size #[.int .i64 0, .int .i64 0, .int .i64 0, .int .i64 0, .int .i64 0, .int .i64 0, .int .i64 0, .slice none 0 0, .int .i64 0, .int .i64 0, .int .i64 0, .int .u64 0, .int .u64 0, .int .u64 0, .bool false] 50) := hid (Blk.new' (by simp))
      have BG : Hid (W0.heap.size ≤ w54.heap.size) := hid ((C55.out).size)
      refine ⟨C58.out, ?_⟩
      have GC : Hid (Gr w54 (w54.alloc (.cells #[.int .i64 0, .int .i64 0, .int .i64 0, .int .i64 0, .int .i64 0, .int .i64 0, .int .i64 0, .slice none 0 0, .int .i64 0, .int .i64 0, .int .i64 0, .int .u64 0, .int .u64 0, .int .u64 0, .bool false] 50))) := hid ((Gr.refl _).alloc _)
      generalize (w54.alloc (.cells #[.int .i64 0, .int .i64 0, .int .i64 0, .int .i64 0, .int .i64 0, .int .i64 0, .int .i64 0, .slice none 0 0, .int .i64 0, .int .i64 0, .int .i64 0, .int .u64 0, .int .u64 0, .int .u64 0, .bool false] 50)) = w57 at *
      generalize hbe : w54.heap.size = b60 at *
      have BE := hid hbe
      clear hbe
      have hbl := B59.out.lt
      have hbf := fun i => Blk.free B59.out i
      obtain ⟨z0, z1, z2, z3, z4, z5, z6, z7, z8, z9, z10, z11, z12, z13, z14⟩ := cells15 (B59.out)
      refine anyC_alone 16 C58.out (by kernel_rfl) (by kernel_rfl) ?_
      conv => arg 4; simp only [picked, List.filterMap_cons, List.filterMap_nil, List.getElem?_toArray, List.getElem?_cons_zero, List.getElem?_cons_succ]
      show wpList _ _ _ [_] _ _
      go_wp2_with fail
      have B63 := hid (blk_put15 B59.out (.int .i64 c.th) (.int .i64 c.sl) (.int .i64 c.cp) (.int .i64 c.he) (.int .i64 c.ke) (.int .i64 c.ev) (.int .i64 c.la) (.slice A1 B1.cells.length cap1) (.int .i64 B1.count) (.int .i64 B1.last.kind) (.int .i64 B1.last.cell) (.int .u64 B1.last.via) (.int .u64 B1.last.old) (.int .u64 B1.last.new) (.bool B1.last.done))
      have HC := hid (chg_put15 w57 b60 (.int .i64 c.th) (.int .i64 c.sl) (.int .i64 c.cp) (.int .i64 c.he) (.int .i64 c.ke) (.int .i64 c.ev) (.int .i64 c.la) (.slice A1 B1.cells.length cap1) (.int .i64 B1.count) (.int .i64 B1.last.kind) (.int .i64 B1.last.cell) (.int .u64 B1.last.via) (.int .u64 B1.last.old) (.int .u64 B1.last.new) (.bool B1.last.done))
      have C62 : Hid (Gr W0 (((((((((((((((w57.setCell ⟨b60, 0, none⟩ (.int .i64 c.th)).setCell ⟨b60, 1, none⟩ (.int .i64 c.sl)).setCell ⟨b60, 2, none⟩ (.int .i64 c.cp)).setCell ⟨b60, 3, none⟩ (.int .i64 c.he)).setCell ⟨b60, 4, none⟩ (.int .i64 c.ke)).setCell ⟨b60, 5, none⟩ (.int .i64 c.ev)).setCell ⟨b60, 6, none⟩ (.int .i64 c.la)).setCell ⟨b60, 7, none⟩ (.slice A1 B1.cells.length cap1)).setCell ⟨b60, 8, none⟩ (.int .i64 B1.count)).setCell ⟨b60, 9, none⟩ (.int .i64 B1.last.kind)).setCell ⟨b60, 10, none⟩ (.int .i64 B1.last.cell)).setCell ⟨b60, 11, none⟩ (.int .u64 B1.last.via)).setCell ⟨b60, 12, none⟩ (.int .u64 B1.last.old)).setCell ⟨b60, 13, none⟩ (.int .u64 B1.last.new)).setCell ⟨b60, 14, none⟩ (.bool B1.last.done))) := hid ((C58.out).step HC.out (by rintro i rfl; exact BG.out))
      have HW2 := hid (HW.out.keep (Chg.trans GC.out.chg HC.out) (fun a n c e h => by have := BE.out; omega))
      clear z0 z1 z2 z3 z4 z5 z6 z7 z8 z9 z10 z11 z12 z13 z14 hbl hbf
      generalize (((((((((((((((w57.setCell ⟨b60, 0, none⟩ (.int .i64 c.th)).setCell ⟨b60, 1, none⟩ (.int .i64 c.sl)).setCell ⟨b60, 2, none⟩ (.int .i64 c.cp)).setCell ⟨b60, 3, none⟩ (.int .i64 c.he)).setCell ⟨b60, 4, none⟩ (.int .i64 c.ke)).setCell ⟨b60, 5, none⟩ (.int .i64 c.ev)).setCell ⟨b60, 6, none⟩ (.int .i64 c.la)).setCell ⟨b60, 7, none⟩ (.slice A1 B1.cells.length cap1)).setCell ⟨b60, 8, none⟩ (.int .i64 B1.count)).setCell ⟨b60, 9, none⟩ (.int .i64 B1.last.kind)).setCell ⟨b60, 10, none⟩ (.int .i64 B1.last.cell)).setCell ⟨b60, 11, none⟩ (.int .u64 B1.last.via)).setCell ⟨b60, 12, none⟩ (.int .u64 B1.last.old)).setCell ⟨b60, 13, none⟩ (.int .u64 B1.last.new)).setCell ⟨b60, 14, none⟩ (.bool B1.last.done)) = w61 at *
      refine ⟨C62.out, ?_⟩
      refine anyC_quiet (a1 := ?a64) (by kernel_rfl) 0 [17] _ _ _ (by kernel_rfl) (by kernel_rfl) C62.out ?_ ?_
      rotate_left
      · intro w' g'
        have hne : Nonempty (St (· = w')) := ⟨⟨w', rfl⟩⟩
        clear g'
        conv => arg 5; simp only [picked, List.filterMap_cons, List.filterMap_nil, List.getElem?_toArray, List.getElem?_cons_zero, List.getElem?_cons_succ]
        show wpQuiet _ _ _ _ [_] _
        repeat (go_big_quiet_step (fail))
        refine wpQuiet_nil ?_
        rfl
      refine ⟨by kernel_rfl, ?_⟩
      have GW1 := hid (Gr.trans G0.out C62.out)
      have D2 := hid (A2.out.gr C62.out)
      have D4 := hid (A4.out.gr C62.out)
      have D5 := hid (A5.out.gr C62.out)
      obtain ⟨p0, p1, p2, p3, p4⟩ := cells5 (D2.out)
      have pl := D2.out.lt
      have pf := fun i => Blk.free D2.out i
      have hmd := HMD.out
      go_wp2_with fail
      clear hmd p0 p1 p2 p3 p4 pl pf
      have hF : w.heap.size ≤ x2 ∧ x2 < W0.heap.size := by have := XS.out; omega
      refine wp_gen (fun W => Cls w.heap.size W0.heap.size w61 x2 b60 #[.int .u64 h, .int .i64 1, .int .i64 lv, .int .u64 z, .bool false] #[.int .i64 c.th, .int .i64 c.sl, .int .i64 c.cp, .int .i64 c.he, .int .i64 c.ke, .int .i64 c.ev, .int .i64 c.la, .slice A1 B1.cells.length cap1, .int .i64 B1.count, .int .i64 B1.last.kind, .int .i64 B1.last.cell, .int .u64 B1.last.via, .int .u64 B1.last.old, .int .u64 B1.last.new, .bool B1.last.done] W ∧ Blk W x4 #[.int .u64 0, .int .i64 0, .int .i64 0, .int .u64 0, .bool false] 84 ∧ Blk W x5 #[.int .i64 0, .int .i64 0, .int .i64 0, .int .i64 0, .int .i64 0, .int .i64 0, .int .i64 0, .slice none 0 0, .int .i64 0, .int .i64 0, .int .i64 0, .int .u64 0, .int .u64 0, .int .u64 0, .bool false] 50) ⟨⟨Blk.of_eq (Blk.set D2.out 1 _) (by simp), (Blk.set_other B63.out (by have := XS.out; have := BG.out; show b60 ≠ x2; omega) _), Chg.setCell (Chg.refl _ _) (.inl hF) _⟩, (Blk.set_other D4.out (by have := XS.out; have := BG.out; show x4 ≠ x2; omega) _), (Blk.set_other D5.out (by have := XS.out; have := BG.out; show x5 ≠ x2; omega) _)⟩ ?_
      intro W HI
      clear hF D2 D4 D5
      have HC := hid HI.1.drew
      have D4 := hid HI.2.1.drew
      have D5 := hid HI.2.2.drew
      clear HI
      refine wp_region_anyC (n := 4) (Cls w.heap.size W0.heap.size w61 x2 b60 #[.int .u64 h, .int .i64 1, .int .i64 lv, .int .u64 z, .bool false] #[.int .i64 c.th, .int .i64 c.sl, .int .i64 c.cp, .int .i64 c.he, .int .i64 c.ke, .int .i64 c.ev, .int .i64 c.la, .slice A1 B1.cells.length cap1, .int .i64 B1.count, .int .i64 B1.last.kind, .int .i64 B1.last.cell, .int .u64 B1.last.via, .int .u64 B1.last.old, .int .u64 B1.last.new, .bool B1.last.done]) (by kernel_rfl) rfl ?_
      generalize World.drew _ = Wd at *
      refine anyC_quiet (a1 := ?a65) (by kernel_rfl) 2 [0, 1] _ _ _ (by kernel_rfl) (by kernel_rfl) HC.out ?_ ?_
      rotate_left
      · intro w' g'
        have hne : Nonempty (St (· = w')) := ⟨⟨w', rfl⟩⟩
        have X3 := g'.x
        obtain ⟨u0, u1, u2, u3, u4⟩ := st5 (X3)
        clear X3
        have X3 := g'.m
        obtain ⟨y0, y1, y2, y3, y4, y5, y6, y7, y8, y9, y10, y11, y12, y13, y14⟩ := st15 (X3)
        clear X3
        clear g'
        conv => arg 5; simp only [picked, List.filterMap_cons, List.filterMap_nil, List.getElem?_toArray, List.getElem?_cons_zero, List.getElem?_cons_succ]
        show wpQuiet _ _ _ _ [_, _] _
        repeat (go_big_quiet_step (fail))
        refine wpQuiet_nil ?_
        rfl
      obtain ⟨q0, q1, q2, q3, q4⟩ := cells5 (D4.out)
      have ql := D4.out.lt
      have qf := fun i => Blk.free D4.out i
      refine anyC_alone 2 HC.out (by kernel_rfl) (by kernel_rfl) ?_
      conv => arg 4; simp only [picked, List.filterMap_cons, List.filterMap_nil, List.getElem?_toArray, List.getElem?_cons_zero, List.getElem?_cons_succ]
      show wpList _ _ _ [_] _ _
      go_wp2_with fail
      clear q0 q1 q2 q3 q4 ql qf
      have E4 : Hid (Blk (((((Wd.setCell ⟨x4, 0, none⟩ (.int .u64 h)).setCell ⟨x4, 1, none⟩ (.int .i64 1)).setCell ⟨x4, 2, none⟩ (.int .i64 lv)).setCell ⟨x4, 3, none⟩ (.int .u64 z)).setCell ⟨x4, 4, none⟩ (.bool false)) x4 #[.int .u64 h, .int .i64 1, .int .i64 lv, .int .u64 z, .bool false] 84) := hid (blk_put5 D4.out (.int .u64 h) (.int .i64 1) (.int .i64 lv) (.int .u64 z) (.bool false))
      have HC4 := hid (chg_put5 Wd x4 (.int .u64 h) (.int .i64 1) (.int .i64 lv) (.int .u64 z) (.bool false))
      have E5 := hid (Blk.chg D5.out HC4.out (by have := XS.out; omega))
      have HC2 := hid (HC.out.put HC4.out (by have := XS.out; omega) (by have := BG.out; have := XS.out; omega) (by have := XS.out; omega) (by have := XS.out; omega))
      generalize (((((Wd.setCell ⟨x4, 0, none⟩ (.int .u64 h)).setCell ⟨x4, 1, none⟩ (.int .i64 1)).setCell ⟨x4, 2, none⟩ (.int .i64 lv)).setCell ⟨x4, 3, none⟩ (.int .u64 z)).setCell ⟨x4, 4, none⟩ (.bool false)) = Wf at *
      clear HC HC4 D4 D5
      refine ⟨HC2.out, ?_⟩
      obtain ⟨q0, q1, q2, q3, q4, q5, q6, q7, q8, q9, q10, q11, q12, q13, q14⟩ := cells15 (E5.out)
      have ql := E5.out.lt
      have qf := fun i => Blk.free E5.out i
      refine anyC_alone 3 HC2.out (by kernel_rfl) (by kernel_rfl) ?_
      conv => arg 4; simp only [picked, List.filterMap_cons, List.filterMap_nil, List.getElem?_toArray, List.getElem?_cons_zero, List.getElem?_cons_succ]
      show wpList _ _ _ [_] _ _
      go_wp2_with fail
      clear q0 q1 q2 q3 q4 q5 q6 q7 q8 q9 q10 q11 q12 q13 q14 ql qf
      have F5 : Hid (Blk (((((((((((((((Wf.setCell ⟨x5, 0, none⟩ (.int .i64 c.th)).setCell ⟨x5, 1, none⟩ (.int .i64 c.sl)).setCell ⟨x5, 2, none⟩ (.int .i64 c.cp)).setCell ⟨x5, 3, none⟩ (.int .i64 c.he)).setCell ⟨x5, 4, none⟩ (.int .i64 c.ke)).setCell ⟨x5, 5, none⟩ (.int .i64 c.ev)).setCell ⟨x5, 6, none⟩ (.int .i64 c.la)).setCell ⟨x5, 7, none⟩ (.slice A1 B1.cells.length cap1)).setCell ⟨x5, 8, none⟩ (.int .i64 B1.count)).setCell ⟨x5, 9, none⟩ (.int .i64 B1.last.kind)).setCell ⟨x5, 10, none⟩ (.int .i64 B1.last.cell)).setCell ⟨x5, 11, none⟩ (.int .u64 B1.last.via)).setCell ⟨x5, 12, none⟩ (.int .u64 B1.last.old)).setCell ⟨x5, 13, none⟩ (.int .u64 B1.last.new)).setCell ⟨x5, 14, none⟩ (.bool B1.last.done)) x5 #[.int .i64 c.th, .int .i64 c.sl, .int .i64 c.cp, .int .i64 c.he, .int .i64 c.ke, .int .i64 c.ev, .int .i64 c.la, .slice A1 B1.cells.length cap1, .int .i64 B1.count, .int .i64 B1.last.kind, .int .i64 B1.last.cell, .int .u64 B1.last.via, .int .u64 B1.last.old, .int .u64 B1.last.new, .bool B1.last.done] 50) := hid (blk_put15 E5.out (.int .i64 c.th) (.int .i64 c.sl) (.int .i64 c.cp) (.int .i64 c.he) (.int .i64 c.ke) (.int .i64 c.ev) (.int .i64 c.la) (.slice A1 B1.cells.length cap1) (.int .i64 B1.count) (.int .i64 B1.last.kind) (.int .i64 B1.last.cell) (.int .u64 B1.last.via) (.int .u64 B1.last.old) (.int .u64 B1.last.new) (.bool B1.last.done))
      have HC5 := hid (chg_put15 Wf x5 (.int .i64 c.th) (.int .i64 c.sl) (.int .i64 c.cp) (.int .i64 c.he) (.int .i64 c.ke) (.int .i64 c.ev) (.int .i64 c.la) (.slice A1 B1.cells.length cap1) (.int .i64 B1.count) (.int .i64 B1.last.kind) (.int .i64 B1.last.cell) (.int .u64 B1.last.via) (.int .u64 B1.last.old) (.int .u64 B1.last.new) (.bool B1.last.done))
      have F4 := hid (Blk.chg E4.out HC5.out (by have := XS.out; omega))
      have HC3 := hid (HC2.out.put HC5.out (by have := XS.out; omega) (by have := BG.out; have := XS.out; omega) (by have := XS.out; omega) (by have := XS.out; omega))
      generalize (((((((((((((((Wf.setCell ⟨x5, 0, none⟩ (.int .i64 c.th)).setCell ⟨x5, 1, none⟩ (.int .i64 c.sl)).setCell ⟨x5, 2, none⟩ (.int .i64 c.cp)).setCell ⟨x5, 3, none⟩ (.int .i64 c.he)).setCell ⟨x5, 4, none⟩ (.int .i64 c.ke)).setCell ⟨x5, 5, none⟩ (.int .i64 c.ev)).setCell ⟨x5, 6, none⟩ (.int .i64 c.la)).setCell ⟨x5, 7, none⟩ (.slice A1 B1.cells.length cap1)).setCell ⟨x5, 8, none⟩ (.int .i64 B1.count)).setCell ⟨x5, 9, none⟩ (.int .i64 B1.last.kind)).setCell ⟨x5, 10, none⟩ (.int .i64 B1.last.cell)).setCell ⟨x5, 11, none⟩ (.int .u64 B1.last.via)).setCell ⟨x5, 12, none⟩ (.int .u64 B1.last.old)).setCell ⟨x5, 13, none⟩ (.int .u64 B1.last.new)).setCell ⟨x5, 14, none⟩ (.bool B1.last.done)) = Wg at *
      clear HC2 HC5 E4 E5
      refine ⟨HC3.out, ?_⟩
      refine ⟨by kernel_rfl, ?_⟩
      go_wp2_with fail
      refine bodyPost_ret (v := .tuple #[RHS.val ⟨h, 1, lv, z, false⟩, mval c (.slice A1 B1.cells.length cap1) B1]) (res45 _ x4 x5 _ ⟨h, 1, lv, z, false⟩ c (.slice A1 B1.cells.length cap1) B1 ⟨_, _, _, rfl⟩ rfl rfl F4.out F5.out) rfl ⟨(.slice A1 B1.cells.length cap1), rfl, ?_, ?_, HF.out⟩
      · exact HW2.out.keep HC3.out.chg (fun a n cc e _ hk => NX.out a n cc e _ hk.1 hk.2 rfl)
      · exact Gr.step GW1.out HC3.out.chg (fun k hk => hk.1)
    · conv => arg 4; simp only [picked, List.filterMap_cons, List.filterMap_nil, List.getElem?_toArray, List.getElem?_cons_zero, List.getElem?_cons_succ]
      show wpList _ _ _ [_] _ _
      go_wp2_with fail
      have C67 : Hid (Gr W0 (w52.alloc (.cells #[.int .i64 0, .int .i64 0, .int .i64 0, .int .i64 0, .int .i64 0, .int .i64 0, .int .i64 0, .slice none 0 0, .int .i64 0, .int .i64 0, .int .i64 0, .int .u64 0, .int .u64 0, .int .u64 0, .bool false] 50))) := hid ((C53.out).alloc _)
      have B68 : Hid (Blk (w52.alloc (.cells #[.int .i64 0, .int .i64 0, .int .i64 0, .int .i64 0, .int .i64 0, .int .i64 0, .int .i64 0, .slice none 0 0, .int .i64 0, .int .i64 0, .int .i64 0, .int .u64 0, .int .u64 0, .int .u64 0, .bool false] 50)) w52.heap.size #[.int .i64 0, .int .i64 0, .int .i64 0, .int .i64 0, .int .i64 0, .int .i64 0, .int .i64 0, .slice none 0 0, .int .i64 0, .int .i64 0, .int .i64 0, .int .u64 0, .int .u64 0, .int .u64 0, .bool false] 50) := hid (Blk.new' (by simp))
      have BG : Hid (W0.heap.size ≤ w52.heap.size) := hid ((C53.out).size)
      refine ⟨C67.out, ?_⟩
      generalize (w52.alloc (.cells #[.int .i64 0, .int .i64 0, .int .i64 0, .int .i64 0, .int .i64 0, .int .i64 0, .int .i64 0, .slice none 0 0, .int .i64 0, .int .i64 0, .int .i64 0, .int .u64 0, .int .u64 0, .int .u64 0, .bool false] 50)) = w66 at *
      generalize hbe : w52.heap.size = b69 at *
      have BE := hid hbe
      clear hbe
      refine anyC_alone 11 C67.out (by kernel_rfl) (by kernel_rfl) ?_
      conv => arg 4; simp only [picked, List.filterMap_cons, List.filterMap_nil, List.getElem?_toArray, List.getElem?_cons_zero, List.getElem?_cons_succ]
      show wpList _ _ _ [_] _ _
      go_wp2_with fail
      refine (hld.out _ (HV.out.gr (Gr.trans G0.out C67.out))).mono ?_
      rintro e w70 ⟨s1, rfl, hw1, gw70, hf1⟩
      have C71 := hid (Gr.trans C67.out gw70)
      have B72 := hid (Blk.gr B68.out gw70)
      obtain ⟨A1, cap1, rfl⟩ := hw1.slice
      have HW := hid hw1
      have NX := hid (Fresh.nx (hi := W0.heap.size) hf1 HV.out HN.out (C67.out).size)
      have HF := hid (Fresh.mono hf1 (Gr.trans G0.out C67.out).size)
      have NB := hid (hf1.apart (w1 := w) (w0 := w) HV.out b69 (by have := BG.out; have := XS.out; omega) (by have := B68.out.lt; omega) HN.out)
      clear hw1 hf1
      unfold mval
      clear gw70
      go_wp2_with fail
      refine ⟨C71.out, ?_⟩
      refine anyC_quiet (a1 := ?a73) (by kernel_rfl) 2 [12, 13, 14] _ _ _ (by kernel_rfl) (by kernel_rfl) C71.out ?_ ?_
      rotate_left
      · intro w' g'
        have hne : Nonempty (St (· = w')) := ⟨⟨w', rfl⟩⟩
        clear g'
        conv => arg 5; simp only [picked, List.filterMap_cons, List.filterMap_nil, List.getElem?_toArray, List.getElem?_cons_zero, List.getElem?_cons_succ]
        show wpQuiet _ _ _ _ [_, _, _] _
        repeat (go_big_quiet_step (fail))
        refine wpQuiet_nil ?_
        rfl
      have hbl := B72.out.lt
      have hbf := fun i => Blk.free B72.out i
      obtain ⟨z0, z1, z2, z3, z4, z5, z6, z7, z8, z9, z10, z11, z12, z13, z14⟩ := cells15 (B72.out)
      refine anyC_alone 16 C71.out (by kernel_rfl) (by kernel_rfl) ?_
      conv => arg 4; simp only [picked, List.filterMap_cons, List.filterMap_nil, List.getElem?_toArray, List.getElem?_cons_zero, List.getElem?_cons_succ]
      show wpList _ _ _ [_] _ _
      go_wp2_with fail
      have B76 := hid (blk_put15 B72.out (.int .i64 c.th) (.int .i64 c.sl) (.int .i64 c.cp) (.int .i64 c.he) (.int .i64 c.ke) (.int .i64 c.ev) (.int .i64 c.la) (.slice A1 B1.cells.length cap1) (.int .i64 B1.count) (.int .i64 B1.last.kind) (.int .i64 B1.last.cell) (.int .u64 B1.last.via) (.int .u64 B1.last.old) (.int .u64 B1.last.new) (.bool B1.last.done))
      have HC := hid (chg_put15 w70 b69 (.int .i64 c.th) (.int .i64 c.sl) (.int .i64 c.cp) (.int .i64 c.he) (.int .i64 c.ke) (.int .i64 c.ev) (.int .i64 c.la) (.slice A1 B1.cells.length cap1) (.int .i64 B1.count) (.int .i64 B1.last.kind) (.int .i64 B1.last.cell) (.int .u64 B1.last.via) (.int .u64 B1.last.old) (.int .u64 B1.last.new) (.bool B1.last.done))
      have C75 : Hid (Gr W0 (((((((((((((((w70.setCell ⟨b69, 0, none⟩ (.int .i64 c.th)).setCell ⟨b69, 1, none⟩ (.int .i64 c.sl)).setCell ⟨b69, 2, none⟩ (.int .i64 c.cp)).setCell ⟨b69, 3, none⟩ (.int .i64 c.he)).setCell ⟨b69, 4, none⟩ (.int .i64 c.ke)).setCell ⟨b69, 5, none⟩ (.int .i64 c.ev)).setCell ⟨b69, 6, none⟩ (.int .i64 c.la)).setCell ⟨b69, 7, none⟩ (.slice A1 B1.cells.length cap1)).setCell ⟨b69, 8, none⟩ (.int .i64 B1.count)).setCell ⟨b69, 9, none⟩ (.int .i64 B1.last.kind)).setCell ⟨b69, 10, none⟩ (.int .i64 B1.last.cell)).setCell ⟨b69, 11, none⟩ (.int .u64 B1.last.via)).setCell ⟨b69, 12, none⟩ (.int .u64 B1.last.old)).setCell ⟨b69, 13, none⟩ (.int .u64 B1.last.new)).setCell ⟨b69, 14, none⟩ (.bool B1.last.done))) := hid ((C71.out).step HC.out (by rintro i rfl; exact BG.out))
      have HW2 := hid (HW.out.keep HC.out (fun a n c e _ => NB.out a n c e))
      clear z0 z1 z2 z3 z4 z5 z6 z7 z8 z9 z10 z11 z12 z13 z14 hbl hbf
      generalize (((((((((((((((w70.setCell ⟨b69, 0, none⟩ (.int .i64 c.th)).setCell ⟨b69, 1, none⟩ (.int .i64 c.sl)).setCell ⟨b69, 2, none⟩ (.int .i64 c.cp)).setCell ⟨b69, 3, none⟩ (.int .i64 c.he)).setCell ⟨b69, 4, none⟩ (.int .i64 c.ke)).setCell ⟨b69, 5, none⟩ (.int .i64 c.ev)).setCell ⟨b69, 6, none⟩ (.int .i64 c.la)).setCell ⟨b69, 7, none⟩ (.slice A1 B1.cells.length cap1)).setCell ⟨b69, 8, none⟩ (.int .i64 B1.count)).setCell ⟨b69, 9, none⟩ (.int .i64 B1.last.kind)).setCell ⟨b69, 10, none⟩ (.int .i64 B1.last.cell)).setCell ⟨b69, 11, none⟩ (.int .u64 B1.last.via)).setCell ⟨b69, 12, none⟩ (.int .u64 B1.last.old)).setCell ⟨b69, 13, none⟩ (.int .u64 B1.last.new)).setCell ⟨b69, 14, none⟩ (.bool B1.last.done)) = w74 at *
      refine ⟨C75.out, ?_⟩
      refine anyC_quiet (a1 := ?a77) (by kernel_rfl) 0 [17] _ _ _ (by kernel_rfl) (by kernel_rfl) C75.out ?_ ?_
      rotate_left
      · intro w' g'
        have hne : Nonempty (St (· = w')) := ⟨⟨w', rfl⟩⟩
        clear g'
        conv => arg 5; simp only [picked, List.filterMap_cons, List.filterMap_nil, List.getElem?_toArray, List.getElem?_cons_zero, List.getElem?_cons_succ]
        show wpQuiet _ _ _ _ [_] _
        repeat (go_big_quiet_step (fail))
        refine wpQuiet_nil ?_
        rfl
      refine ⟨by kernel_rfl, ?_⟩
      have GW1 := hid (Gr.trans G0.out C75.out)
      have D2 := hid (A2.out.gr C75.out)
      have D4 := hid (A4.out.gr C75.out)
      have D5 := hid (A5.out.gr C75.out)
      obtain ⟨p0, p1, p2, p3, p4⟩ := cells5 (D2.out)
      have pl := D2.out.lt
      have pf := fun i => Blk.free D2.out i
      have hmd := HMD.out
      go_wp2_with fail
      clear hmd p0 p1 p2 p3 p4 pl pf
      have hF : w.heap.size ≤ x2 ∧ x2 < W0.heap.size := by have := XS.out; omega
      refine wp_gen (fun W => Cls w.heap.size W0.heap.size w74 x2 b69 #[.int .u64 h, .int .i64 1, .int .i64 lv, .int .u64 z, .bool false] #[.int .i64 c.th, .int .i64 c.sl, .int .i64 c.cp, .int .i64 c.he, .int .i64 c.ke, .int .i64 c.ev, .int .i64 c.la, .slice A1 B1.cells.length cap1, .int .i64 B1.count, .int .i64 B1.last.kind, .int .i64 B1.last.cell, .int .u64 B1.last.via, .int .u64 B1.last.old, .int .u64 B1.last.new, .bool B1.last.done] W ∧ Blk W x4 #[.int .u64 0, .int .i64 0, .int .i64 0, .int .u64 0, .bool false] 84 ∧ Blk W x5 #[.int .i64 0, .int .i64 0, .int .i64 0, .int .i64 0, .int .i64 0, .int .i64 0, .int .i64 0, .slice none 0 0, .int .i64 0, .int .i64 0, .int .i64 0, .int .u64 0, .int .u64 0, .int .u64 0, .bool false] 50) ⟨⟨Blk.of_eq (Blk.set D2.out 1 _) (by simp), (Blk.set_other B76.out (by have := XS.out; have := BG.out; show b69 ≠ x2; omega) _), Chg.setCell (Chg.refl _ _) (.inl hF) _⟩, (Blk.set_other D4.out (by have := XS.out; have := BG.out; show x4 ≠ x2; omega) _), (Blk.set_other D5.out (by have := XS.out; have := BG.out; show x5 ≠ x2; omega) _)⟩ ?_
      intro W HI
      clear hF D2 D4 D5
      have HC := hid HI.1.drew
      have D4 := hid HI.2.1.drew
      have D5 := hid HI.2.2.drew
      clear HI
      refine wp_region_anyC (n := 4) (Cls w.heap.size W0.heap.size w74 x2 b69 #[.int .u64 h, .int .i64 1, .int .i64 lv, .int .u64 z, .bool false] #[.int .i64 c.th, .int .i64 c.sl, .int .i64 c.cp, .int .i64 c.he, .int .i64 c.ke, .int .i64 c.ev, .int .i64 c.la, .slice A1 B1.cells.length cap1, .int .i64 B1.count, .int .i64 B1.last.kind, .int .i64 B1.last.cell, .int .u64 B1.last.via, .int .u64 B1.last.old, .int .u64 B1.last.new, .bool B1.last.done]) (by kernel_rfl) rfl ?_
      generalize World.drew _ = Wd at *
      refine anyC_quiet (a1 := ?a78) (by kernel_rfl) 2 [0, 1] _ _ _ (by kernel_rfl) (by kernel_rfl) HC.out ?_ ?_
      rotate_left
      · intro w' g'
        have hne : Nonempty (St (· = w')) := ⟨⟨w', rfl⟩⟩
        have X3 := g'.x
        obtain ⟨u0, u1, u2, u3, u4⟩ := st5 (X3)
        clear X3
        have X3 := g'.m
        obtain ⟨y0, y1, y2, y3, y4, y5, y6, y7, y8, y9, y10, y11, y12, y13, y14⟩ := st15 (X3)
        clear X3
        clear g'
        conv => arg 5; simp only [picked, List.filterMap_cons, List.filterMap_nil, List.getElem?_toArray, List.getElem?_cons_zero, List.getElem?_cons_succ]
        show wpQuiet _ _ _ _ [_, _] _
        repeat (go_big_quiet_step (fail))
        refine wpQuiet_nil ?_
        rfl
      obtain ⟨q0, q1, q2, q3, q4⟩ := cells5 (D4.out)
      have ql := D4.out.lt
      have qf := fun i => Blk.free D4.out i
      refine anyC_alone 2 HC.out (by kernel_rfl) (by kernel_rfl) ?_
      conv => arg 4; simp only [picked, List.filterMap_cons, List.filterMap_nil, List.getElem?_toArray, List.getElem?_cons_zero, List.getElem?_cons_succ]
      show wpList _ _ _ [_] _ _
      go_wp2_with fail
      clear q0 q1 q2 q3 q4 ql qf
      have E4 : Hid (Blk (((((Wd.setCell ⟨x4, 0, none⟩ (.int .u64 h)).setCell ⟨x4, 1, none⟩ (.int .i64 1)).setCell ⟨x4, 2, none⟩ (.int .i64 lv)).setCell ⟨x4, 3, none⟩ (.int .u64 z)).setCell ⟨x4, 4, none⟩ (.bool false)) x4 #[.int .u64 h, .int .i64 1, .int .i64 lv, .int .u64 z, .bool false] 84) := hid (blk_put5 D4.out (.int .u64 h) (.int .i64 1) (.int .i64 lv) (.int .u64 z) (.bool false))
      have HC4 := hid (chg_put5 Wd x4 (.int .u64 h) (.int .i64 1) (.int .i64 lv) (.int .u64 z) (.bool false))
      have E5 := hid (Blk.chg D5.out HC4.out (by have := XS.out; omega))
      have HC2 := hid (HC.out.put HC4.out (by have := XS.out; omega) (by have := BG.out; have := XS.out; omega) (by have := XS.out; omega) (by have := XS.out; omega))
      generalize (((((Wd.setCell ⟨x4, 0, none⟩ (.int .u64 h)).setCell ⟨x4, 1, none⟩ (.int .i64 1)).setCell ⟨x4, 2, none⟩ (.int .i64 lv)).setCell ⟨x4, 3, none⟩ (.int .u64 z)).setCell ⟨x4, 4, none⟩ (.bool false)) = Wf at *
      clear HC HC4 D4 D5
      refine ⟨HC2.out, ?_⟩
      obtain ⟨q0, q1, q2, q3, q4, q5, q6, q7, q8, q9, q10, q11, q12, q13, q14⟩ := cells15 (E5.out)
      have ql := E5.out.lt
      have qf := fun i => Blk.free E5.out i
      refine anyC_alone 3 HC2.out (by kernel_rfl) (by kernel_rfl) ?_
      conv => arg 4; simp only [picked, List.filterMap_cons, List.filterMap_nil, List.getElem?_toArray, List.getElem?_cons_zero, List.getElem?_cons_succ]
      show wpList _ _ _ [_] _ _
      go_wp2_with fail
      clear q0 q1 q2 q3 q4 q5 q6 q7 q8 q9 q10 q11 q12 q13 q14 ql qf
      have F5 : Hid (Blk (((((((((((((((Wf.setCell ⟨x5, 0, none⟩ (.int .i64 c.th)).setCell ⟨x5, 1, none⟩ (.int .i64 c.sl)).setCell ⟨x5, 2, none⟩ (.int .i64 c.cp)).setCell ⟨x5, 3, none⟩ (.int .i64 c.he)).setCell ⟨x5, 4, none⟩ (.int .i64 c.ke)).setCell ⟨x5, 5, none⟩ (.int .i64 c.ev)).setCell ⟨x5, 6, none⟩ (.int .i64 c.la)).setCell ⟨x5, 7, none⟩ (.slice A1 B1.cells.length cap1)).setCell ⟨x5, 8, none⟩ (.int .i64 B1.count)).setCell ⟨x5, 9, none⟩ (.int .i64 B1.last.kind)).setCell ⟨x5, 10, none⟩ (.int .i64 B1.last.cell)).setCell ⟨x5, 11, none⟩ (.int .u64 B1.last.via)).setCell ⟨x5, 12, none⟩ (.int .u64 B1.last.old)).setCell ⟨x5, 13, none⟩ (.int .u64 B1.last.new)).setCell ⟨x5, 14, none⟩ (.bool B1.last.done)) x5 #[.int .i64 c.th, .int .i64 c.sl, .int .i64 c.cp, .int .i64 c.he, .int .i64 c.ke, .int .i64 c.ev, .int .i64 c.la, .slice A1 B1.cells.length cap1, .int .i64 B1.count, .int .i64 B1.last.kind, .int .i64 B1.last.cell, .int .u64 B1.last.via, .int .u64 B1.last.old, .int .u64 B1.last.new, .bool B1.last.done] 50) := hid (blk_put15 E5.out (.int .i64 c.th) (.int .i64 c.sl) (.int .i64 c.cp) (.int .i64 c.he) (.int .i64 c.ke) (.int .i64 c.ev) (.int .i64 c.la) (.slice A1 B1.cells.length cap1) (.int .i64 B1.count) (.int .i64 B1.last.kind) (.int .i64 B1.last.cell) (.int .u64 B1.last.via) (.int .u64 B1.last.old) (.int .u64 B1.last.new) (.bool B1.last.done))
      have HC5 := hid (chg_put15 Wf x5 (.int .i64 c.th) (.int .i64 c.sl) (.int .i64 c.cp) (.int .i64 c.he) (.int .i64 c.ke) (.int .i64 c.ev) (.int .i64 c.la) (.slice A1 B1.cells.length cap1) (.int .i64 B1.count) (.int .i64 B1.last.kind) (.int .i64 B1.last.cell) (.int .u64 B1.last.via) (.int .u64 B1.last.old) (.int .u64 B1.last.new) (.bool B1.last.done))
      have F4 := hid (Blk.chg E4.out HC5.out (by have := XS.out; omega))
      have HC3 := hid (HC2.out.put HC5.out (by have := XS.out; omega) (by have := BG.out; have := XS.out; omega) (by have := XS.out; omega) (by have := XS.out; omega))
      generalize (((((((((((((((Wf.setCell ⟨x5, 0, none⟩ (.int .i64 c.th)).setCell ⟨x5, 1, none⟩ (.int .i64 c.sl)).setCell ⟨x5, 2, none⟩ (.int .i64 c.cp)).setCell ⟨x5, 3, none⟩ (.int .i64 c.he)).setCell ⟨x5, 4, none⟩ (.int .i64 c.ke)).setCell ⟨x5, 5, none⟩ (.int .i64 c.ev)).setCell ⟨x5, 6, none⟩ (.int .i64 c.la)).setCell ⟨x5, 7, none⟩ (.slice A1 B1.cells.length cap1)).setCell ⟨x5, 8, none⟩ (.int .i64 B1.count)).setCell ⟨x5, 9, none⟩ (.int .i64 B1.last.kind)).setCell ⟨x5, 10, none⟩ (.int .i64 B1.last.cell)).setCell ⟨x5, 11, none⟩ (.int .u64 B1.last.via)).setCell ⟨x5, 12, none⟩ (.int .u64 B1.last.old)).setCell ⟨x5, 13, none⟩ (.int .u64 B1.last.new)).setCell ⟨x5, 14, none⟩ (.bool B1.last.done)) = Wg at *
      clear HC2 HC5 E4 E5
      refine ⟨HC3.out, ?_⟩
      refine ⟨by kernel_rfl, ?_⟩
      go_wp2_with fail
      refine bodyPost_ret (v := .tuple #[RHS.val ⟨h, 1, lv, z, false⟩, mval c (.slice A1 B1.cells.length cap1) B1]) (res45 _ x4 x5 _ ⟨h, 1, lv, z, false⟩ c (.slice A1 B1.cells.length cap1) B1 ⟨_, _, _, rfl⟩ rfl rfl F4.out F5.out) rfl ⟨(.slice A1 B1.cells.length cap1), rfl, ?_, ?_, HF.out⟩
      · exact HW2.out.keep HC3.out.chg (fun a n cc e _ hk => NX.out a n cc e _ hk.1 hk.2 rfl)
      · exact Gr.step GW1.out HC3.out.chg (fun k hk => hk.1)
  · conv => arg 4; simp only [picked, List.filterMap_cons, List.filterMap_nil, List.getElem?_toArray, List.getElem?_cons_zero, List.getElem?_cons_succ]
    show wpList _ _ _ [_] _ _
    go_wp2_with fail
    have C80 : Hid (Gr W0 (wd.alloc (.cells #[.int .i64 0, .int .i64 0, .int .i64 0, .int .i64 0, .int .i64 0, .int .i64 0, .int .i64 0, .slice none 0 0, .int .i64 0, .int .i64 0, .int .i64 0, .int .u64 0, .int .u64 0, .int .u64 0, .bool false] 50))) := hid ((CD.out).alloc _)
    have B81 : Hid (Blk (wd.alloc (.cells #[.int .i64 0, .int .i64 0, .int .i64 0, .int .i64 0, .int .i64 0, .int .i64 0, .int .i64 0, .slice none 0 0, .int .i64 0, .int .i64 0, .int .i64 0, .int .u64 0, .int .u64 0, .int .u64 0, .bool false] 50)) wd.heap.size #[.int .i64 0, .int .i64 0, .int .i64 0, .int .i64 0, .int .i64 0, .int .i64 0, .int .i64 0, .slice none 0 0, .int .i64 0, .int .i64 0, .int .i64 0, .int .u64 0, .int .u64 0, .int .u64 0, .bool false] 50) := hid (Blk.new' (by simp))
    have BG : Hid (W0.heap.size ≤ wd.heap.size) := hid ((CD.out).size)
    refine ⟨C80.out, ?_⟩
    generalize (wd.alloc (.cells #[.int .i64 0, .int .i64 0, .int .i64 0, .int .i64 0, .int .i64 0, .int .i64 0, .int .i64 0, .slice none 0 0, .int .i64 0, .int .i64 0, .int .i64 0, .int .u64 0, .int .u64 0, .int .u64 0, .bool false] 50)) = w79 at *
    generalize hbe : wd.heap.size = b82 at *
    have BE := hid hbe
    clear hbe
    refine anyC_alone 10 C80.out (by kernel_rfl) (by kernel_rfl) ?_
    conv => arg 4; simp only [picked, List.filterMap_cons, List.filterMap_nil, List.getElem?_toArray, List.getElem?_cons_zero, List.getElem?_cons_succ]
    show wpList _ _ _ [_] _ _
    go_wp2_with fail
    refine (HMK.out _).mono ?_
    rintro e w83 ⟨rfl, gw83⟩
    have C84 := hid (Gr.trans C80.out gw83)
    have B85 := hid (Blk.gr B81.out gw83)
    clear gw83
    go_wp2_with fail
    refine ⟨C84.out, ?_⟩
    refine anyC_alone 11 C84.out (by kernel_rfl) (by kernel_rfl) ?_
    conv => arg 4; simp only [picked, List.filterMap_cons, List.filterMap_nil, List.getElem?_toArray, List.getElem?_cons_zero, List.getElem?_cons_succ]
    show wpList _ _ _ [_] _ _
    go_wp2_with fail
    refine (hld.out _ (HV.out.gr (Gr.trans G0.out C84.out))).mono ?_
    rintro e w86 ⟨s1, rfl, hw1, gw86, hf1⟩
    have C87 := hid (Gr.trans C84.out gw86)
    have B88 := hid (Blk.gr B85.out gw86)
    obtain ⟨A1, cap1, rfl⟩ := hw1.slice
    have HW := hid hw1
    have NX := hid (Fresh.nx (hi := W0.heap.size) hf1 HV.out HN.out (C84.out).size)
    have HF := hid (Fresh.mono hf1 (Gr.trans G0.out C84.out).size)
    have NB := hid (hf1.apart (w1 := w) (w0 := w) HV.out b82 (by have := BG.out; have := XS.out; omega) (by have := B85.out.lt; omega) HN.out)
    clear hw1 hf1
    unfold mval
    clear gw86
    go_wp2_with fail
    refine ⟨C87.out, ?_⟩
    refine anyC_quiet (a1 := ?a89) (by kernel_rfl) 2 [12, 13, 14] _ _ _ (by kernel_rfl) (by kernel_rfl) C87.out ?_ ?_
    rotate_left
    · intro w' g'
      have hne : Nonempty (St (· = w')) := ⟨⟨w', rfl⟩⟩
      clear g'
      conv => arg 5; simp only [picked, List.filterMap_cons, List.filterMap_nil, List.getElem?_toArray, List.getElem?_cons_zero, List.getElem?_cons_succ]
      show wpQuiet _ _ _ _ [_, _, _] _
      repeat (go_big_quiet_step (fail))
      refine wpQuiet_nil ?_
      rfl
    have hbl := B88.out.lt
    have hbf := fun i => Blk.free B88.out i
    obtain ⟨z0, z1, z2, z3, z4, z5, z6, z7, z8, z9, z10, z11, z12, z13, z14⟩ := cells15 (B88.out)
    refine anyC_alone 16 C87.out (by kernel_rfl) (by kernel_rfl) ?_
    conv => arg 4; simp only [picked, List.filterMap_cons, List.filterMap_nil, List.getElem?_toArray, List.getElem?_cons_zero, List.getElem?_cons_succ]
    show wpList _ _ _ [_] _ _
    go_wp2_with fail
    have B92 := hid (blk_put15 B88.out (.int .i64 c.th) (.int .i64 c.sl) (.int .i64 c.cp) (.int .i64 c.he) (.int .i64 c.ke) (.int .i64 c.ev) (.int .i64 c.la) (.slice A1 B1.cells.length cap1) (.int .i64 B1.count) (.int .i64 B1.last.kind) (.int .i64 B1.last.cell) (.int .u64 B1.last.via) (.int .u64 B1.last.old) (.int .u64 B1.last.new) (.bool B1.last.done))
    have HC := hid (chg_put15 w86 b82 (.int .i64 c.th) (.int .i64 c.sl) (.int .i64 c.cp) (.int .i64 c.he) (.int .i64 c.ke) (.int .i64 c.ev) (.int .i64 c.la) (.slice A1 B1.cells.length cap1) (.int .i64 B1.count) (.int .i64 B1.last.kind) (.int .i64 B1.last.cell) (.int .u64 B1.last.via) (.int .u64 B1.last.old) (.int .u64 B1.last.new) (.bool B1.last.done))
    have C91 : Hid (Gr W0 (((((((((((((((w86.setCell ⟨b82, 0, none⟩ (.int .i64 c.th)).setCell ⟨b82, 1, none⟩ (.int .i64 c.sl)).setCell ⟨b82, 2, none⟩ (.int .i64 c.cp)).setCell ⟨b82, 3, none⟩ (.int .i64 c.he)).setCell ⟨b82, 4, none⟩ (.int .i64 c.ke)).setCell ⟨b82, 5, none⟩ (.int .i64 c.ev)).setCell ⟨b82, 6, none⟩ (.int .i64 c.la)).setCell ⟨b82, 7, none⟩ (.slice A1 B1.cells.length cap1)).setCell ⟨b82, 8, none⟩ (.int .i64 B1.count)).setCell ⟨b82, 9, none⟩ (.int .i64 B1.last.kind)).setCell ⟨b82, 10, none⟩ (.int .i64 B1.last.cell)).setCell ⟨b82, 11, none⟩ (.int .u64 B1.last.via)).setCell ⟨b82, 12, none⟩ (.int .u64 B1.last.old)).setCell ⟨b82, 13, none⟩ (.int .u64 B1.last.new)).setCell ⟨b82, 14, none⟩ (.bool B1.last.done))) := hid ((C87.out).step HC.out (by rintro i rfl; exact BG.out))
    have HW2 := hid (HW.out.keep HC.out (fun a n c e _ => NB.out a n c e))
    clear z0 z1 z2 z3 z4 z5 z6 z7 z8 z9 z10 z11 z12 z13 z14 hbl hbf
    generalize (((((((((((((((w86.setCell ⟨b82, 0, none⟩ (.int .i64 c.th)).setCell ⟨b82, 1, none⟩ (.int .i64 c.sl)).setCell ⟨b82, 2, none⟩ (.int .i64 c.cp)).setCell ⟨b82, 3, none⟩ (.int .i64 c.he)).setCell ⟨b82, 4, none⟩ (.int .i64 c.ke)).setCell ⟨b82, 5, none⟩ (.int .i64 c.ev)).setCell ⟨b82, 6, none⟩ (.int .i64 c.la)).setCell ⟨b82, 7, none⟩ (.slice A1 B1.cells.length cap1)).setCell ⟨b82, 8, none⟩ (.int .i64 B1.count)).setCell ⟨b82, 9, none⟩ (.int .i64 B1.last.kind)).setCell ⟨b82, 10, none⟩ (.int .i64 B1.last.cell)).setCell ⟨b82, 11, none⟩ (.int .u64 B1.last.via)).setCell ⟨b82, 12, none⟩ (.int .u64 B1.last.old)).setCell ⟨b82, 13, none⟩ (.int .u64 B1.last.new)).setCell ⟨b82, 14, none⟩ (.bool B1.last.done)) = w90 at *
    refine ⟨C91.out, ?_⟩
    refine anyC_quiet (a1 := ?a93) (by kernel_rfl) 0 [17] _ _ _ (by kernel_rfl) (by kernel_rfl) C91.out ?_ ?_
    rotate_left
    · intro w' g'
      have hne : Nonempty (St (· = w')) := ⟨⟨w', rfl⟩⟩
      clear g'
      conv => arg 5; simp only [picked, List.filterMap_cons, List.filterMap_nil, List.getElem?_toArray, List.getElem?_cons_zero, List.getElem?_cons_succ]
      show wpQuiet _ _ _ _ [_] _
      repeat (go_big_quiet_step (fail))
      refine wpQuiet_nil ?_
      rfl
    refine ⟨by kernel_rfl, ?_⟩
    have GW1 := hid (Gr.trans G0.out C91.out)
    have D2 := hid (A2.out.gr C91.out)
    have D4 := hid (A4.out.gr C91.out)
    have D5 := hid (A5.out.gr C91.out)
    obtain ⟨p0, p1, p2, p3, p4⟩ := cells5 (D2.out)
    have pl := D2.out.lt
    have pf := fun i => Blk.free D2.out i
    have hmd := HMD.out
    go_wp2_with fail
    clear hmd p0 p1 p2 p3 p4 pl pf
    have hF : w.heap.size ≤ x2 ∧ x2 < W0.heap.size := by have := XS.out; omega
    refine wp_gen (fun W => Cls w.heap.size W0.heap.size w90 x2 b82 #[.int .u64 h, .int .i64 1, .int .i64 lv, .int .u64 z, .bool false] #[.int .i64 c.th, .int .i64 c.sl, .int .i64 c.cp, .int .i64 c.he, .int .i64 c.ke, .int .i64 c.ev, .int .i64 c.la, .slice A1 B1.cells.length cap1, .int .i64 B1.count, .int .i64 B1.last.kind, .int .i64 B1.last.cell, .int .u64 B1.last.via, .int .u64 B1.last.old, .int .u64 B1.last.new, .bool B1.last.done] W ∧ Blk W x4 #[.int .u64 0, .int .i64 0, .int .i64 0, .int .u64 0, .bool false] 84 ∧ Blk W x5 #[.int .i64 0, .int .i64 0, .int .i64 0, .int .i64 0, .int .i64 0, .int .i64 0, .int .i64 0, .slice none 0 0, .int .i64 0, .int .i64 0, .int .i64 0, .int .u64 0, .int .u64 0, .int .u64 0, .bool false] 50) ⟨⟨Blk.of_eq (Blk.set D2.out 1 _) (by simp), (Blk.set_other B92.out (by have := XS.out; have := BG.out; show b82 ≠ x2; omega) _), Chg.setCell (Chg.refl _ _) (.inl hF) _⟩, (Blk.set_other D4.out (by have := XS.out; have := BG.out; show x4 ≠ x2; omega) _), (Blk.set_other D5.out (by have := XS.out; have := BG.out; show x5 ≠ x2; omega) _)⟩ ?_
    intro W HI
    clear hF D2 D4 D5
    have HC := hid HI.1.drew
    have D4 := hid HI.2.1.drew
    have D5 := hid HI.2.2.drew
    clear HI
    refine wp_region_anyC (n := 4) (Cls w.heap.size W0.heap.size w90 x2 b82 #[.int .u64 h, .int .i64 1, .int .i64 lv, .int .u64 z, .bool false] #[.int .i64 c.th, .int .i64 c.sl, .int .i64 c.cp, .int .i64 c.he, .int .i64 c.ke, .int .i64 c.ev, .int .i64 c.la, .slice A1 B1.cells.length cap1, .int .i64 B1.count, .int .i64 B1.last.kind, .int .i64 B1.last.cell, .int .u64 B1.last.via, .int .u64 B1.last.old, .int .u64 B1.last.new, .bool B1.last.done]) (by kernel_rfl) rfl ?_
    generalize World.drew _ = Wd at *
    refine anyC_quiet (a1 := ?a94) (by kernel_rfl) 2 [0, 1] _ _ _ (by kernel_rfl) (by kernel_rfl) HC.out ?_ ?_
    rotate_left
    · intro w' g'
      have hne : Nonempty (St (· = w')) := ⟨⟨w', rfl⟩⟩
      have X3 := g'.x
      obtain ⟨u0, u1, u2, u3, u4⟩ := st5 (X3)
      clear X3
      have X3 := g'.m
      obtain ⟨y0, y1, y2, y3, y4, y5, y6, y7, y8, y9, y10, y11, y12, y13, y14⟩ := st15 (X3)
      clear X3
      clear g'
      conv => arg 5; simp only [picked, List.filterMap_cons, List.filterMap_nil, List.getElem?_toArray, List.getElem?_cons_zero, List.getElem?_cons_succ]
      show wpQuiet _ _ _ _ [_, _] _
      repeat (go_big_quiet_step (fail))
      refine wpQuiet_nil ?_
      rfl
    obtain ⟨q0, q1, q2, q3, q4⟩ := cells5 (D4.out)
    have ql := D4.out.lt
    have qf := fun i => Blk.free D4.out i
    refine anyC_alone 2 HC.out (by kernel_rfl) (by kernel_rfl) ?_
    conv => arg 4; simp only [picked, List.filterMap_cons, List.filterMap_nil, List.getElem?_toArray, List.getElem?_cons_zero, List.getElem?_cons_succ]
    show wpList _ _ _ [_] _ _
    go_wp2_with fail
    clear q0 q1 q2 q3 q4 ql qf
    have E4 : Hid (Blk (((((Wd.setCell ⟨x4, 0, none⟩ (.int .u64 h)).setCell ⟨x4, 1, none⟩ (.int .i64 1)).setCell ⟨x4, 2, none⟩ (.int .i64 lv)).setCell ⟨x4, 3, none⟩ (.int .u64 z)).setCell ⟨x4, 4, none⟩ (.bool false)) x4 #[.int .u64 h, .int .i64 1, .int .i64 lv, .int .u64 z, .bool false] 84) := hid (blk_put5 D4.out (.int .u64 h) (.int .i64 1) (.int .i64 lv) (.int .u64 z) (.bool false))
    have HC4 := hid (chg_put5 Wd x4 (.int .u64 h) (.int .i64 1) (.int .i64 lv) (.int .u64 z) (.bool false))
    have E5 := hid (Blk.chg D5.out HC4.out (by have := XS.out; omega))
    have HC2 := hid (HC.out.put HC4.out (by have := XS.out; omega) (by have := BG.out; have := XS.out; omega) (by have := XS.out; omega) (by have := XS.out; omega))
    generalize (((((Wd.setCell ⟨x4, 0, none⟩ (.int .u64 h)).setCell ⟨x4, 1, none⟩ (.int .i64 1)).setCell ⟨x4, 2, none⟩ (.int .i64 lv)).setCell ⟨x4, 3, none⟩ (.int .u64 z)).setCell ⟨x4, 4, none⟩ (.bool false)) = Wf at *
    clear HC HC4 D4 D5
    refine ⟨HC2.out, ?_⟩
    obtain ⟨q0, q1, q2, q3, q4, q5, q6, q7, q8, q9, q10, q11, q12, q13, q14⟩ := cells15 (E5.out)
    have ql := E5.out.lt
    have qf := fun i => Blk.free E5.out i
    refine anyC_alone 3 HC2.out (by kernel_rfl) (by kernel_rfl) ?_
    conv => arg 4; simp only [picked, List.filterMap_cons, List.filterMap_nil, List.getElem?_toArray, List.getElem?_cons_zero, List.getElem?_cons_succ]
    show wpList _ _ _ [_] _ _
    go_wp2_with fail
    clear q0 q1 q2 q3 q4 q5 q6 q7 q8 q9 q10 q11 q12 q13 q14 ql qf
    have F5 : Hid (Blk (((((((((((((((Wf.setCell ⟨x5, 0, none⟩ (.int .i64 c.th)).setCell ⟨x5, 1, none⟩ (.int .i64 c.sl)).setCell ⟨x5, 2, none⟩ (.int .i64 c.cp)).setCell ⟨x5, 3, none⟩ (.int .i64 c.he)).setCell ⟨x5, 4, none⟩ (.int .i64 c.ke)).setCell ⟨x5, 5, none⟩ (.int .i64 c.ev)).setCell ⟨x5, 6, none⟩ (.int .i64 c.la)).setCell ⟨x5, 7, none⟩ (.slice A1 B1.cells.length cap1)).setCell ⟨x5, 8, none⟩ (.int .i64 B1.count)).setCell ⟨x5, 9, none⟩ (.int .i64 B1.last.kind)).setCell ⟨x5, 10, none⟩ (.int .i64 B1.last.cell)).setCell ⟨x5, 11, none⟩ (.int .u64 B1.last.via)).setCell ⟨x5, 12, none⟩ (.int .u64 B1.last.old)).setCell ⟨x5, 13, none⟩ (.int .u64 B1.last.new)).setCell ⟨x5, 14, none⟩ (.bool B1.last.done)) x5 #[.int .i64 c.th, .int .i64 c.sl, .int .i64 c.cp, .int .i64 c.he, .int .i64 c.ke, .int .i64 c.ev, .int .i64 c.la, .slice A1 B1.cells.length cap1, .int .i64 B1.count, .int .i64 B1.last.kind, .int .i64 B1.last.cell, .int .u64 B1.last.via, .int .u64 B1.last.old, .int .u64 B1.last.new, .bool B1.last.done] 50) := hid (blk_put15 E5.out (.int .i64 c.th) (.int .i64 c.sl) (.int .i64 c.cp) (.int .i64 c.he) (.int .i64 c.ke) (.int .i64 c.ev) (.int .i64 c.la) (.slice A1 B1.cells.length cap1) (.int .i64 B1.count) (.int .i64 B1.last.kind) (.int .i64 B1.last.cell) (.int .u64 B1.last.via) (.int .u64 B1.last.old) (.int .u64 B1.last.new) (.bool B1.last.done))
    have HC5 := hid (chg_put15 Wf x5 (.int .i64 c.th) (.int .i64 c.sl) (.int .i64 c.cp) (.int .i64 c.he) (.int .i64 c.ke) (.int .i64 c.ev) (.int .i64 c.la) (.slice A1 B1.cells.length cap1) (.int .i64 B1.count) (.int .i64 B1.last.kind) (.int .i64 B1.last.cell) (.int .u64 B1.last.via) (.int .u64 B1.last.old) (.int .u64 B1.last.new) (.bool B1.last.done))
    have F4 := hid (Blk.chg E4.out HC5.out (by have := XS.out; omega))
    have HC3 := hid (HC2.out.put HC5.out (by have := XS.out; omega) (by have := BG.out; have := XS.out; omega) (by have := XS.out; omega) (by have := XS.out; omega))
    generalize (((((((((((((((Wf.setCell ⟨x5, 0, none⟩ (.int .i64 c.th)).setCell ⟨x5, 1, none⟩ (.int .i64 c.sl)).setCell ⟨x5, 2, none⟩ (.int .i64 c.cp)).setCell ⟨x5, 3, none⟩ (.int .i64 c.he)).setCell ⟨x5, 4, none⟩ (.int .i64 c.ke)).setCell ⟨x5, 5, none⟩ (.int .i64 c.ev)).setCell ⟨x5, 6, none⟩ (.int .i64 c.la)).setCell ⟨x5, 7, none⟩ (.slice A1 B1.cells.length cap1)).setCell ⟨x5, 8, none⟩ (.int .i64 B1.count)).setCell ⟨x5, 9, none⟩ (.int .i64 B1.last.kind)).setCell ⟨x5, 10, none⟩ (.int .i64 B1.last.cell)).setCell ⟨x5, 11, none⟩ (.int .u64 B1.last.via)).setCell ⟨x5, 12, none⟩ (.int .u64 B1.last.old)).setCell ⟨x5, 13, none⟩ (.int .u64 B1.last.new)).setCell ⟨x5, 14, none⟩ (.bool B1.last.done)) = Wg at *
    clear HC2 HC5 E4 E5
    refine ⟨HC3.out, ?_⟩
    refine ⟨by kernel_rfl, ?_⟩
    go_wp2_with fail
    refine bodyPost_ret (v := .tuple #[RHS.val ⟨h, 1, lv, z, false⟩, mval c (.slice A1 B1.cells.length cap1) B1]) (res45 _ x4 x5 _ ⟨h, 1, lv, z, false⟩ c (.slice A1 B1.cells.length cap1) B1 ⟨_, _, _, rfl⟩ rfl rfl F4.out F5.out) rfl ⟨(.slice A1 B1.cells.length cap1), rfl, ?_, ?_, HF.out⟩
    · exact HW2.out.keep HC3.out.chg (fun a n cc e _ hk => NX.out a n cc e _ hk.1 hk.2 rfl)
    · exact Gr.step GW1.out HC3.out.chg (fun k hk => hk.1)

end Go.Proofs.YthbkncklliiooaaH
