/-
  Are the words the document's; what is written meanwhile, by the reference.
-/
import Derived.Test.YthbkncklliiooaaRg
import Derived.Test.YthbkncklliiooaaQx28
namespace Go.Proofs.YthbkncklliiooaaH
set_option linter.unusedVariables false
set_option linter.unusedSimpArgs false
open Go.RowKit Go.Proofs.Ythbkncklliiooaa.Q Go.Proofs.YthbkncklliiooaaW.PrintWords Go.Proofs.YthbkncklliiooaaW.PrintLast Go.Proofs.YthbkncklliiooaaW.PrintMore

theorem eqA46 (d : Nat) (w : World) (x0 y0 : Int) (x1 y1 : Int) (x2 y2 : Int) (x3 y3 : Int) (x4 y4 : Int) (x5 y5 : Bool) :
  (Op.equalIn (d + 2) 46 (.agg #[.int .i64 x0, .int .i64 x1, .int .u64 x2, .int .u64 x3, .int .u64 x4, .bool x5]) (.agg #[.int .i64 y0, .int .i64 y1, .int .u64 y2, .int .u64 y3, .int .u64 y4, .bool y5])).run Try.prog w = .ok (x0 == y0 && (x1 == y1 && (x2 == y2 && (x3 == y3 && (x4 == y4 && (x5 == y5)))))) w := by
  refine eqA_of Try.underlying46 (by kernel_rfl) ?_
  refine eqf_cons (by rfl) (by go_simp; rfl) (by go_simp; rfl) (by go_simp) ?_
  refine eqf_cons (by rfl) (by go_simp; rfl) (by go_simp; rfl) (by go_simp) ?_
  refine eqf_cons (by rfl) (by go_simp; rfl) (by go_simp; rfl) (by go_simp) ?_
  refine eqf_cons (by rfl) (by go_simp; rfl) (by go_simp; rfl) (by go_simp) ?_
  refine eqf_cons (by rfl) (by go_simp; rfl) (by go_simp; rfl) (by go_simp) ?_
  exact eqf_last (by rfl) (by go_simp; rfl) (by go_simp; rfl) (by go_simp)
attribute [local go_sem high] eqA46

theorem same_l0 (l : List Int) (hl : l.length ≤ 400) : ∀ (d i : Nat), i + d = l.length → stepstoneref03_Same.l0 (d + 1) l l (i : Int) = some true
  | 0, i, h => by rw [stepstoneref03_Same.l0, if_neg (by omega)]
  | d + 1, i, h => by
    rw [stepstoneref03_Same.l0, if_pos (by omega), if_pos (by omega), if_pos (by omega), if_pos rfl]
    have e : wrap64 ((i : Int) + 1) = ((i + 1 : Nat) : Int) := by rw [w64 (by omega) (by omega)]; omega
    rw [e]
    exact same_l0 l hl d (i + 1) (by omega)
theorem rsame_any (v1 v2 : Value) (l : List Int) (w : World) (h1 : Words w v1 l) (h2 : Words w v2 l) (hl : l.length ≤ 400) : Calls Try.prog 72 #[v1, v2] w fun e w' => e = .returned (.bool true) ∧ Gr w w' := by
  obtain ⟨A1, c1, rfl, hc1, hk1⟩ := c_of_words h1 (by omega)
  obtain ⟨A2, c2, rfl, hc2, hk2⟩ := c_of_words h2 (by omega)
  refine (stepstoneref03_Same.calls (l.length + 1) A1 c1 l A2 c2 l true w hk1 hc1 hk2 hc2 ?_).mono fun e w' hq => ⟨hq.1, by first | exact hq.2 | exact hq.2.below⟩
  unfold stepstoneref03_Same.f
  rw [if_pos rfl]
  exact same_l0 l hl l.length 0 (by omega)
theorem words_blk {w : World} {b : Nat} {l : List Int} (h : Blk w b (wordsRow l) 40) : Words w (.slice (some ⟨b, 0, none⟩) l.length l.length) l :=
  OwnWords.words (cur := wordsRow l) ⟨h, wordsRow_size l, Nat.le_refl _, fun i hi => by simp [wordsRow_get, List.getD, hi]⟩

set_option maxRecDepth 100000 in
set_option maxHeartbeats 2000000 in
theorem same_any (m p q : Nat) (c : Cf) (s : Value) (B : Bk) (w : World) (hm : IsMem w m p q c B) (hv : Words w s B.cells) (hl : B.cells.length ≤ 400) :
    Calls Try.prog 46 #[.pointer (some ⟨m, 0, none⟩), mval c s B] w fun e w' => e = .returned (.bool true) ∧ Gr w w' := by
  obtain ⟨A, cap, rfl⟩ := hv.slice
  have HV := hid hv
  have HM := hid hm
  have HL := hid hl
  clear hv hm hl
  unfold mval
  go_enter Try.func46, Try.ntmps46
  go_wp2_with fail
  have G0 := hid ((Gr.refl w).alloc (.cells #[.int .i64 c.th, .int .i64 c.sl, .int .i64 c.cp, .int .i64 c.he, .int .i64 c.ke, .int .i64 c.ev, .int .i64 c.la, .slice A B.cells.length cap, .int .i64 B.count, .int .i64 B.last.kind, .int .i64 B.last.cell, .int .u64 B.last.via, .int .u64 B.last.old, .int .u64 B.last.new, .bool B.last.done] 50))
  have AX : Hid (Blk (w.alloc (.cells #[.int .i64 c.th, .int .i64 c.sl, .int .i64 c.cp, .int .i64 c.he, .int .i64 c.ke, .int .i64 c.ev, .int .i64 c.la, .slice A B.cells.length cap, .int .i64 B.count, .int .i64 B.last.kind, .int .i64 B.last.cell, .int .u64 B.last.via, .int .u64 B.last.old, .int .u64 B.last.new, .bool B.last.done] 50)) w.heap.size #[.int .i64 c.th, .int .i64 c.sl, .int .i64 c.cp, .int .i64 c.he, .int .i64 c.ke, .int .i64 c.ev, .int .i64 c.la, .slice A B.cells.length cap, .int .i64 B.count, .int .i64 B.last.kind, .int .i64 B.last.cell, .int .u64 B.last.via, .int .u64 B.last.old, .int .u64 B.last.new, .bool B.last.done] 50) := hid (Blk.new w #[.int .i64 c.th, .int .i64 c.sl, .int .i64 c.cp, .int .i64 c.he, .int .i64 c.ke, .int .i64 c.ev, .int .i64 c.la, .slice A B.cells.length cap, .int .i64 B.count, .int .i64 B.last.kind, .int .i64 B.last.cell, .int .u64 B.last.via, .int .u64 B.last.old, .int .u64 B.last.new, .bool B.last.done] 50)
  generalize (w.alloc (.cells #[.int .i64 c.th, .int .i64 c.sl, .int .i64 c.cp, .int .i64 c.he, .int .i64 c.ke, .int .i64 c.ev, .int .i64 c.la, .slice A B.cells.length cap, .int .i64 B.count, .int .i64 B.last.kind, .int .i64 B.last.cell, .int .u64 B.last.via, .int .u64 B.last.old, .int .u64 B.last.new, .bool B.last.done] 50)) = W0 at *
  refine (mbank_any m p q c B W0 (HM.out.gr G0.out)).mono ?_
  rintro e W1 ⟨rfl, rfl⟩
  go_wp2_with fail
  refine wp_region_anyC (n := 27) (Gr W0) (by kernel_rfl) rfl ?_
  have CD := hid ((Gr.refl W0).drew)
  generalize W0.drew = wd at *
  refine anyC_quiet (a1 := ?a1) (by kernel_rfl) 20 [0, 1, 2, 3, 5, 6, 7] _ _ _ (by kernel_rfl) (by kernel_rfl) CD.out ?_ ?_
  rotate_left
  · intro w' g'
    have hne : Nonempty (St (· = w')) := ⟨⟨w', rfl⟩⟩
    have X3 := AX.out.gr g'
    obtain ⟨u0, u1, u2, u3, u4, u5, u6, u7, u8, u9, u10, u11, u12, u13, u14⟩ := st15 (X3)
    clear X3
    clear g'
    conv => arg 5; simp only [picked, List.filterMap_cons, List.filterMap_nil, List.getElem?_toArray, List.getElem?_cons_zero, List.getElem?_cons_succ]
    show wpQuiet _ _ _ _ [_, _, _, _, _, _, _] _
    repeat (go_big_quiet_step (fail))
    refine wpQuiet_nil ?_
    rfl
  refine anyC_alone 4 CD.out (by kernel_rfl) (by kernel_rfl) ?_
  conv => arg 4; simp only [picked, List.filterMap_cons, List.filterMap_nil, List.getElem?_toArray, List.getElem?_cons_zero, List.getElem?_cons_succ]
  show wpList _ _ _ [_] _ _
  go_wp2_with fail
  refine (cells_any p q B _ (HM.out.gr (Gr.trans G0.out CD.out)).bank (by have := HL.out; omega)).mono ?_
  rintro e w2 ⟨rfl, k2, g2⟩
  have C2 := hid (Gr.trans CD.out g2)
  have K2 := hid (words_blk k2)
  clear g2 k2
  generalize wd.heap.size = b2 at *
  go_wp2_with fail
  refine ⟨C2.out, ?_⟩
  refine anyC_alone 8 C2.out (by kernel_rfl) (by kernel_rfl) ?_
  conv => arg 4; simp only [picked, List.filterMap_cons, List.filterMap_nil, List.getElem?_toArray, List.getElem?_cons_zero, List.getElem?_cons_succ]
  show wpList _ _ _ [_] _ _
  go_wp2_with fail
  refine (rsame_any _ _ _ _ K2.out (HV.out.gr (Gr.trans G0.out C2.out)) HL.out).mono ?_
  rintro e w3 ⟨rfl, g3⟩
  have C3 := hid (Gr.trans C2.out g3)
  clear g3
  go_wp2_with fail
  refine ⟨C3.out, ?_⟩
  refine anyC_quiet (a1 := ?a2) (by kernel_rfl) 12 [9, 10, 11, 13, 14, 15] _ _ _ (by kernel_rfl) (by kernel_rfl) C3.out ?_ ?_
  rotate_left
  · intro w' g'
    have hne : Nonempty (St (· = w')) := ⟨⟨w', rfl⟩⟩
    have X3 := AX.out.gr g'
    obtain ⟨u0, u1, u2, u3, u4, u5, u6, u7, u8, u9, u10, u11, u12, u13, u14⟩ := st15 (X3)
    clear X3
    clear g'
    conv => arg 5; simp only [picked, List.filterMap_cons, List.filterMap_nil, List.getElem?_toArray, List.getElem?_cons_zero, List.getElem?_cons_succ]
    show wpQuiet _ _ _ _ [_, _, _, _, _, _] _
    repeat (go_big_quiet_step (fail))
    refine wpQuiet_nil ?_
    rfl
  refine anyC_alone 12 C3.out (by kernel_rfl) (by kernel_rfl) ?_
  conv => arg 4; simp only [picked, List.filterMap_cons, List.filterMap_nil, List.getElem?_toArray, List.getElem?_cons_zero, List.getElem?_cons_succ]
  show wpList _ _ _ [_] _ _
  go_wp2_with fail
  refine (count_any p q B _ (HM.out.gr (Gr.trans G0.out C3.out)).bank).mono ?_
  rintro e w4 ⟨rfl, rfl⟩
  go_wp2_with fail
  refine ⟨C3.out, ?_⟩
  refine anyC_quiet (a1 := ?a3) (by kernel_rfl) 4 [16, 17, 18, 19, 21, 22, 23] _ _ _ (by kernel_rfl) (by kernel_rfl) C3.out ?_ ?_
  rotate_left
  · intro w' g'
    have hne : Nonempty (St (· = w')) := ⟨⟨w', rfl⟩⟩
    have X3 := AX.out.gr g'
    obtain ⟨u0, u1, u2, u3, u4, u5, u6, u7, u8, u9, u10, u11, u12, u13, u14⟩ := st15 (X3)
    clear X3
    clear g'
    conv => arg 5; simp only [picked, List.filterMap_cons, List.filterMap_nil, List.getElem?_toArray, List.getElem?_cons_zero, List.getElem?_cons_succ]
    show wpQuiet _ _ _ _ [_, _, _, _, _, _, _] _
    repeat (go_big_quiet_step (fail))
    refine wpQuiet_nil ?_
    rfl
  refine anyC_alone 20 C3.out (by kernel_rfl) (by kernel_rfl) ?_
  conv => arg 4; simp only [picked, List.filterMap_cons, List.filterMap_nil, List.getElem?_toArray, List.getElem?_cons_zero, List.getElem?_cons_succ]
  show wpList _ _ _ [_] _ _
  go_wp2_with fail
  refine (last_any p q B _ (HM.out.gr (Gr.trans G0.out C3.out)).bank).mono ?_
  rintro e w5 ⟨rfl, g5⟩
  have C5 := hid (Gr.trans C3.out g5)
  clear g5
  unfold Acc.val
  go_wp2_with fail
  refine ⟨C5.out, ?_⟩
  refine anyC_quiet (a1 := ?a4) (by kernel_rfl) 0 [24, 25, 26] _ _ _ (by kernel_rfl) (by kernel_rfl) C5.out ?_ ?_
  rotate_left
  · intro w' g'
    have hne : Nonempty (St (· = w')) := ⟨⟨w', rfl⟩⟩
    clear g'
    conv => arg 5; simp only [picked, List.filterMap_cons, List.filterMap_nil, List.getElem?_toArray, List.getElem?_cons_zero, List.getElem?_cons_succ]
    show wpQuiet _ _ _ _ [_, _, _] _
    repeat (go_big_quiet_step (fail))
    refine wpQuiet_nil ?_
    rfl
  refine ⟨by kernel_rfl, ?_⟩
  go_wp2_with fail
  go_ret
  exact ⟨rfl, Gr.trans G0.out C5.out⟩

/-- What the reference leaves of what is written meanwhile. -/
def PTold (w : World) (c : Cf) (s : Value) (B : Bk) (e : Ending) (w' : World) : Prop := ∃ s', e = .returned (mval c s' B) ∧ Words w' s' B.cells ∧ Gr w w' ∧ Fresh w s s'
theorem res67 (t : Array Value) (x : Nat) (W : World) (c : Cf) (s : Value) (B : Bk) (hs : ∃ p n c, s = .slice p n c) (hx : t.getD 4 undef = .pointer (some ⟨x, 0, none⟩))
    (bx : Blk W x #[.int .i64 c.th, .int .i64 c.sl, .int .i64 c.cp, .int .i64 c.he, .int .i64 c.ke, .int .i64 c.ev, .int .i64 c.la, s, .int .i64 B.count, .int .i64 B.last.kind, .int .i64 B.last.cell, .int .u64 B.last.via, .int .u64 B.last.old, .int .u64 B.last.new, .bool B.last.done] 50) :
    (results Try.f67 t).run Try.prog W = .ok (mval c s B) W := by
  obtain ⟨p, n, cp, rfl⟩ := hs
  have x0 : W.cell? ⟨x, 0, none⟩ = some (.int .i64 c.th) := bx.cell rfl
  have x1 : W.cell? ⟨x, 1, none⟩ = some (.int .i64 c.sl) := bx.cell rfl
  have x2 : W.cell? ⟨x, 2, none⟩ = some (.int .i64 c.cp) := bx.cell rfl
  have x3 : W.cell? ⟨x, 3, none⟩ = some (.int .i64 c.he) := bx.cell rfl
  have x4 : W.cell? ⟨x, 4, none⟩ = some (.int .i64 c.ke) := bx.cell rfl
  have x5 : W.cell? ⟨x, 5, none⟩ = some (.int .i64 c.ev) := bx.cell rfl
  have x6 : W.cell? ⟨x, 6, none⟩ = some (.int .i64 c.la) := bx.cell rfl
  have x7 : W.cell? ⟨x, 7, none⟩ = some (.slice p n cp) := bx.cell rfl
  have x8 : W.cell? ⟨x, 8, none⟩ = some (.int .i64 B.count) := bx.cell rfl
  have x9 : W.cell? ⟨x, 9, none⟩ = some (.int .i64 B.last.kind) := bx.cell rfl
  have x10 : W.cell? ⟨x, 10, none⟩ = some (.int .i64 B.last.cell) := bx.cell rfl
  have x11 : W.cell? ⟨x, 11, none⟩ = some (.int .u64 B.last.via) := bx.cell rfl
  have x12 : W.cell? ⟨x, 12, none⟩ = some (.int .u64 B.last.old) := bx.cell rfl
  have x13 : W.cell? ⟨x, 13, none⟩ = some (.int .u64 B.last.new) := bx.cell rfl
  have x14 : W.cell? ⟨x, 14, none⟩ = some (.bool B.last.done) := bx.cell rfl
  simp only [Array.getD_eq_getD_getElem?] at hx
  simp [results, Try.results67, go_sem, mval, hx, x0, x1, x2, x3, x4, x5, x6, x7, x8, x9, x10, x11, x12, x13, x14]
set_option maxRecDepth 100000 in
set_option maxHeartbeats 2000000 in
theorem rpoke_any (c : Cf) (s : Value) (B : Bk) (st cell v : Int) (w : World) (hv : Words w s B.cells) (hne : B.cells ≠ []) (hl : B.cells.length ≤ 400) :
    Calls Try.prog 67 #[mval c s B, .agg #[.int .i64 st, .int .i64 cell, .int .u64 v]] w (PTold w c s (B.store cell 0 v)) := by
  have hst := hid (fun w hv => rstore_any s B cell 0 v w hv hl)
  generalize B.store cell 0 v = B1 at *
  obtain ⟨A, cap, rfl⟩ := hv.slice
  have HV := hid hv
  have HN := hid hne
  unfold rval at hst
  unfold mval
  clear hv hne
  go_enter Try.func67, Try.ntmps67
  go_wp2_with fail
  have G0 := hid ((((Gr.refl w).alloc (.cells #[.int .i64 c.th, .int .i64 c.sl, .int .i64 c.cp, .int .i64 c.he, .int .i64 c.ke, .int .i64 c.ev, .int .i64 c.la, .slice A B.cells.length cap, .int .i64 B.count, .int .i64 B.last.kind, .int .i64 B.last.cell, .int .u64 B.last.via, .int .u64 B.last.old, .int .u64 B.last.new, .bool B.last.done] 50)).alloc (.cells #[.int .i64 st, .int .i64 cell, .int .u64 v] 117)).alloc (.cells #[.int .i64 0, .int .i64 0, .int .i64 0, .int .i64 0, .int .i64 0, .int .i64 0, .int .i64 0, .slice none 0 0, .int .i64 0, .int .i64 0, .int .i64 0, .int .u64 0, .int .u64 0, .int .u64 0, .bool false] 50))
  have A2 : Hid (Blk (((w.alloc (.cells #[.int .i64 c.th, .int .i64 c.sl, .int .i64 c.cp, .int .i64 c.he, .int .i64 c.ke, .int .i64 c.ev, .int .i64 c.la, .slice A B.cells.length cap, .int .i64 B.count, .int .i64 B.last.kind, .int .i64 B.last.cell, .int .u64 B.last.via, .int .u64 B.last.old, .int .u64 B.last.new, .bool B.last.done] 50)).alloc (.cells #[.int .i64 st, .int .i64 cell, .int .u64 v] 117)).alloc (.cells #[.int .i64 0, .int .i64 0, .int .i64 0, .int .i64 0, .int .i64 0, .int .i64 0, .int .i64 0, .slice none 0 0, .int .i64 0, .int .i64 0, .int .i64 0, .int .u64 0, .int .u64 0, .int .u64 0, .bool false] 50)) w.heap.size #[.int .i64 c.th, .int .i64 c.sl, .int .i64 c.cp, .int .i64 c.he, .int .i64 c.ke, .int .i64 c.ev, .int .i64 c.la, .slice A B.cells.length cap, .int .i64 B.count, .int .i64 B.last.kind, .int .i64 B.last.cell, .int .u64 B.last.via, .int .u64 B.last.old, .int .u64 B.last.new, .bool B.last.done] 50) := hid (((Blk.new w #[.int .i64 c.th, .int .i64 c.sl, .int .i64 c.cp, .int .i64 c.he, .int .i64 c.ke, .int .i64 c.ev, .int .i64 c.la, .slice A B.cells.length cap, .int .i64 B.count, .int .i64 B.last.kind, .int .i64 B.last.cell, .int .u64 B.last.via, .int .u64 B.last.old, .int .u64 B.last.new, .bool B.last.done] 50).alloc _).alloc _)
  have A3 : Hid (Blk (((w.alloc (.cells #[.int .i64 c.th, .int .i64 c.sl, .int .i64 c.cp, .int .i64 c.he, .int .i64 c.ke, .int .i64 c.ev, .int .i64 c.la, .slice A B.cells.length cap, .int .i64 B.count, .int .i64 B.last.kind, .int .i64 B.last.cell, .int .u64 B.last.via, .int .u64 B.last.old, .int .u64 B.last.new, .bool B.last.done] 50)).alloc (.cells #[.int .i64 st, .int .i64 cell, .int .u64 v] 117)).alloc (.cells #[.int .i64 0, .int .i64 0, .int .i64 0, .int .i64 0, .int .i64 0, .int .i64 0, .int .i64 0, .slice none 0 0, .int .i64 0, .int .i64 0, .int .i64 0, .int .u64 0, .int .u64 0, .int .u64 0, .bool false] 50)) (w.heap.size + 1) #[.int .i64 st, .int .i64 cell, .int .u64 v] 117) := hid ((Blk.new' (by simp)).alloc _)
  have A4 : Hid (Blk (((w.alloc (.cells #[.int .i64 c.th, .int .i64 c.sl, .int .i64 c.cp, .int .i64 c.he, .int .i64 c.ke, .int .i64 c.ev, .int .i64 c.la, .slice A B.cells.length cap, .int .i64 B.count, .int .i64 B.last.kind, .int .i64 B.last.cell, .int .u64 B.last.via, .int .u64 B.last.old, .int .u64 B.last.new, .bool B.last.done] 50)).alloc (.cells #[.int .i64 st, .int .i64 cell, .int .u64 v] 117)).alloc (.cells #[.int .i64 0, .int .i64 0, .int .i64 0, .int .i64 0, .int .i64 0, .int .i64 0, .int .i64 0, .slice none 0 0, .int .i64 0, .int .i64 0, .int .i64 0, .int .u64 0, .int .u64 0, .int .u64 0, .bool false] 50)) (w.heap.size + 1 + 1) #[.int .i64 0, .int .i64 0, .int .i64 0, .int .i64 0, .int .i64 0, .int .i64 0, .int .i64 0, .slice none 0 0, .int .i64 0, .int .i64 0, .int .i64 0, .int .u64 0, .int .u64 0, .int .u64 0, .bool false] 50) := hid (Blk.new' (by simp))
  generalize (((w.alloc (.cells #[.int .i64 c.th, .int .i64 c.sl, .int .i64 c.cp, .int .i64 c.he, .int .i64 c.ke, .int .i64 c.ev, .int .i64 c.la, .slice A B.cells.length cap, .int .i64 B.count, .int .i64 B.last.kind, .int .i64 B.last.cell, .int .u64 B.last.via, .int .u64 B.last.old, .int .u64 B.last.new, .bool B.last.done] 50)).alloc (.cells #[.int .i64 st, .int .i64 cell, .int .u64 v] 117)).alloc (.cells #[.int .i64 0, .int .i64 0, .int .i64 0, .int .i64 0, .int .i64 0, .int .i64 0, .int .i64 0, .slice none 0 0, .int .i64 0, .int .i64 0, .int .i64 0, .int .u64 0, .int .u64 0, .int .u64 0, .bool false] 50)) = W0 at *
  have XS0 : w.heap.size + 1 + 1 < W0.heap.size := A4.out.lt
  generalize e3 : w.heap.size + 1 = x3 at *
  generalize e4 : x3 + 1 = x4 at *
  generalize e2 : w.heap.size = x2 at *
  have XS : Hid (x2 = w.heap.size ∧ x2 < x3 ∧ x3 < x4 ∧ x4 < W0.heap.size) := hid ⟨e2.symm, by omega, by omega, XS0⟩
  clear XS0 e2 e3 e4
  refine wp_region_anyC (n := 11) (fun W => Blk W x2 #[.int .i64 c.th, .int .i64 c.sl, .int .i64 c.cp, .int .i64 c.he, .int .i64 c.ke, .int .i64 c.ev, .int .i64 c.la, .slice A B.cells.length cap, .int .i64 B.count, .int .i64 B.last.kind, .int .i64 B.last.cell, .int .u64 B.last.via, .int .u64 B.last.old, .int .u64 B.last.new, .bool B.last.done] 50 ∧ Blk W x3 #[.int .i64 st, .int .i64 cell, .int .u64 v] 117 ∧ Gr w W) (by kernel_rfl) rfl ?_
  have C0 : Hid (Blk W0.drew x2 #[.int .i64 c.th, .int .i64 c.sl, .int .i64 c.cp, .int .i64 c.he, .int .i64 c.ke, .int .i64 c.ev, .int .i64 c.la, .slice A B.cells.length cap, .int .i64 B.count, .int .i64 B.last.kind, .int .i64 B.last.cell, .int .u64 B.last.via, .int .u64 B.last.old, .int .u64 B.last.new, .bool B.last.done] 50 ∧ Blk W0.drew x3 #[.int .i64 st, .int .i64 cell, .int .u64 v] 117 ∧ Gr w W0.drew) := hid ⟨A2.out.drew, A3.out.drew, G0.out.drew⟩
  have D4 := hid A4.out.drew
  have HVd := hid (HV.out.gr G0.out.drew)
  have sz : Hid (W0.heap.size ≤ W0.drew.heap.size) := hid (Nat.le_refl _)
  generalize W0.drew = wd at *
  refine anyC_quiet (a1 := ?a5) (by kernel_rfl) 3 [0, 1, 2, 3, 4, 5, 6, 7] _ _ _ (by kernel_rfl) (by kernel_rfl) C0.out ?_ ?_
  rotate_left
  · intro w' g'
    have hne : Nonempty (St (· = w')) := ⟨⟨w', rfl⟩⟩
    have X3 := g'.1
    obtain ⟨u0, u1, u2, u3, u4, u5, u6, u7, u8, u9, u10, u11, u12, u13, u14⟩ := st15 (X3)
    clear X3
    have X3 := g'.2.1
    obtain ⟨y0, y1, y2⟩ := st3 (X3)
    clear X3
    clear g'
    conv => arg 5; simp only [picked, List.filterMap_cons, List.filterMap_nil, List.getElem?_toArray, List.getElem?_cons_zero, List.getElem?_cons_succ]
    show wpQuiet _ _ _ _ [_, _, _, _, _, _, _, _] _
    repeat (go_big_quiet_step (fail))
    refine wpQuiet_nil ?_
    rfl
  refine anyC_alone 8 C0.out (by kernel_rfl) (by kernel_rfl) ?_
  conv => arg 4; simp only [picked, List.filterMap_cons, List.filterMap_nil, List.getElem?_toArray, List.getElem?_cons_zero, List.getElem?_cons_succ]
  show wpList _ _ _ [_] _ _
  go_wp2_with fail
  refine (hst.out _ HVd.out).mono ?_
  rintro e w1 ⟨s1, rfl, hw1, g1, hf1⟩
  obtain ⟨A1, cap1, rfl⟩ := hw1.slice
  have HW1 := hid hw1
  have NX := hid (Fresh.nx (hi := W0.heap.size) hf1 HV.out HN.out sz.out)
  have HF := hid (Fresh.mono hf1 C0.out.2.2.size)
  have C1 : Hid (Blk w1 x2 #[.int .i64 c.th, .int .i64 c.sl, .int .i64 c.cp, .int .i64 c.he, .int .i64 c.ke, .int .i64 c.ev, .int .i64 c.la, .slice A B.cells.length cap, .int .i64 B.count, .int .i64 B.last.kind, .int .i64 B.last.cell, .int .u64 B.last.via, .int .u64 B.last.old, .int .u64 B.last.new, .bool B.last.done] 50 ∧ Blk w1 x3 #[.int .i64 st, .int .i64 cell, .int .u64 v] 117 ∧ Gr w w1) := hid ⟨C0.out.1.gr g1, C0.out.2.1.gr g1, C0.out.2.2.trans g1⟩
  have E4 := hid (Blk.gr D4.out g1)
  clear hw1 g1 hf1 C0 D4
  unfold rval
  go_wp2_with fail
  refine ⟨C1.out, ?_⟩
  refine anyC_quiet (a1 := ?a6) (by kernel_rfl) 1 [9] _ _ _ (by kernel_rfl) (by kernel_rfl) C1.out ?_ ?_
  rotate_left
  · intro w' g'
    have hne : Nonempty (St (· = w')) := ⟨⟨w', rfl⟩⟩
    clear g'
    conv => arg 5; simp only [picked, List.filterMap_cons, List.filterMap_nil, List.getElem?_toArray, List.getElem?_cons_zero, List.getElem?_cons_succ]
    show wpQuiet _ _ _ _ [_] _
    repeat (go_big_quiet_step (fail))
    refine wpQuiet_nil ?_
    rfl
  obtain ⟨q0, q1, q2, q3, q4, q5, q6, q7, q8, q9, q10, q11, q12, q13, q14⟩ := cells15 (E4.out)
  have ql := E4.out.lt
  have qf := fun i => Blk.free E4.out i
  refine anyC_alone 10 C1.out (by kernel_rfl) (by kernel_rfl) ?_
  conv => arg 4; simp only [picked, List.filterMap_cons, List.filterMap_nil, List.getElem?_toArray, List.getElem?_cons_zero, List.getElem?_cons_succ]
  show wpList _ _ _ [_] _ _
  go_wp2_with fail
  clear q0 q1 q2 q3 q4 q5 q6 q7 q8 q9 q10 q11 q12 q13 q14 ql qf
  have F4 : Hid (Blk (((((((((((((((w1.setCell ⟨x4, 0, none⟩ (.int .i64 c.th)).setCell ⟨x4, 1, none⟩ (.int .i64 c.sl)).setCell ⟨x4, 2, none⟩ (.int .i64 c.cp)).setCell ⟨x4, 3, none⟩ (.int .i64 c.he)).setCell ⟨x4, 4, none⟩ (.int .i64 c.ke)).setCell ⟨x4, 5, none⟩ (.int .i64 c.ev)).setCell ⟨x4, 6, none⟩ (.int .i64 c.la)).setCell ⟨x4, 7, none⟩ (.slice A1 B1.cells.length cap1)).setCell ⟨x4, 8, none⟩ (.int .i64 B1.count)).setCell ⟨x4, 9, none⟩ (.int .i64 B1.last.kind)).setCell ⟨x4, 10, none⟩ (.int .i64 B1.last.cell)).setCell ⟨x4, 11, none⟩ (.int .u64 B1.last.via)).setCell ⟨x4, 12, none⟩ (.int .u64 B1.last.old)).setCell ⟨x4, 13, none⟩ (.int .u64 B1.last.new)).setCell ⟨x4, 14, none⟩ (.bool B1.last.done)) x4 #[.int .i64 c.th, .int .i64 c.sl, .int .i64 c.cp, .int .i64 c.he, .int .i64 c.ke, .int .i64 c.ev, .int .i64 c.la, .slice A1 B1.cells.length cap1, .int .i64 B1.count, .int .i64 B1.last.kind, .int .i64 B1.last.cell, .int .u64 B1.last.via, .int .u64 B1.last.old, .int .u64 B1.last.new, .bool B1.last.done] 50) := hid (blk_put15 E4.out (.int .i64 c.th) (.int .i64 c.sl) (.int .i64 c.cp) (.int .i64 c.he) (.int .i64 c.ke) (.int .i64 c.ev) (.int .i64 c.la) (.slice A1 B1.cells.length cap1) (.int .i64 B1.count) (.int .i64 B1.last.kind) (.int .i64 B1.last.cell) (.int .u64 B1.last.via) (.int .u64 B1.last.old) (.int .u64 B1.last.new) (.bool B1.last.done))
  have HC := hid (chg_put15 w1 x4 (.int .i64 c.th) (.int .i64 c.sl) (.int .i64 c.cp) (.int .i64 c.he) (.int .i64 c.ke) (.int .i64 c.ev) (.int .i64 c.la) (.slice A1 B1.cells.length cap1) (.int .i64 B1.count) (.int .i64 B1.last.kind) (.int .i64 B1.last.cell) (.int .u64 B1.last.via) (.int .u64 B1.last.old) (.int .u64 B1.last.new) (.bool B1.last.done))
  have C2 : Hid (Blk (((((((((((((((w1.setCell ⟨x4, 0, none⟩ (.int .i64 c.th)).setCell ⟨x4, 1, none⟩ (.int .i64 c.sl)).setCell ⟨x4, 2, none⟩ (.int .i64 c.cp)).setCell ⟨x4, 3, none⟩ (.int .i64 c.he)).setCell ⟨x4, 4, none⟩ (.int .i64 c.ke)).setCell ⟨x4, 5, none⟩ (.int .i64 c.ev)).setCell ⟨x4, 6, none⟩ (.int .i64 c.la)).setCell ⟨x4, 7, none⟩ (.slice A1 B1.cells.length cap1)).setCell ⟨x4, 8, none⟩ (.int .i64 B1.count)).setCell ⟨x4, 9, none⟩ (.int .i64 B1.last.kind)).setCell ⟨x4, 10, none⟩ (.int .i64 B1.last.cell)).setCell ⟨x4, 11, none⟩ (.int .u64 B1.last.via)).setCell ⟨x4, 12, none⟩ (.int .u64 B1.last.old)).setCell ⟨x4, 13, none⟩ (.int .u64 B1.last.new)).setCell ⟨x4, 14, none⟩ (.bool B1.last.done)) x2 #[.int .i64 c.th, .int .i64 c.sl, .int .i64 c.cp, .int .i64 c.he, .int .i64 c.ke, .int .i64 c.ev, .int .i64 c.la, .slice A B.cells.length cap, .int .i64 B.count, .int .i64 B.last.kind, .int .i64 B.last.cell, .int .u64 B.last.via, .int .u64 B.last.old, .int .u64 B.last.new, .bool B.last.done] 50 ∧ Blk (((((((((((((((w1.setCell ⟨x4, 0, none⟩ (.int .i64 c.th)).setCell ⟨x4, 1, none⟩ (.int .i64 c.sl)).setCell ⟨x4, 2, none⟩ (.int .i64 c.cp)).setCell ⟨x4, 3, none⟩ (.int .i64 c.he)).setCell ⟨x4, 4, none⟩ (.int .i64 c.ke)).setCell ⟨x4, 5, none⟩ (.int .i64 c.ev)).setCell ⟨x4, 6, none⟩ (.int .i64 c.la)).setCell ⟨x4, 7, none⟩ (.slice A1 B1.cells.length cap1)).setCell ⟨x4, 8, none⟩ (.int .i64 B1.count)).setCell ⟨x4, 9, none⟩ (.int .i64 B1.last.kind)).setCell ⟨x4, 10, none⟩ (.int .i64 B1.last.cell)).setCell ⟨x4, 11, none⟩ (.int .u64 B1.last.via)).setCell ⟨x4, 12, none⟩ (.int .u64 B1.last.old)).setCell ⟨x4, 13, none⟩ (.int .u64 B1.last.new)).setCell ⟨x4, 14, none⟩ (.bool B1.last.done)) x3 #[.int .i64 st, .int .i64 cell, .int .u64 v] 117 ∧ Gr w (((((((((((((((w1.setCell ⟨x4, 0, none⟩ (.int .i64 c.th)).setCell ⟨x4, 1, none⟩ (.int .i64 c.sl)).setCell ⟨x4, 2, none⟩ (.int .i64 c.cp)).setCell ⟨x4, 3, none⟩ (.int .i64 c.he)).setCell ⟨x4, 4, none⟩ (.int .i64 c.ke)).setCell ⟨x4, 5, none⟩ (.int .i64 c.ev)).setCell ⟨x4, 6, none⟩ (.int .i64 c.la)).setCell ⟨x4, 7, none⟩ (.slice A1 B1.cells.length cap1)).setCell ⟨x4, 8, none⟩ (.int .i64 B1.count)).setCell ⟨x4, 9, none⟩ (.int .i64 B1.last.kind)).setCell ⟨x4, 10, none⟩ (.int .i64 B1.last.cell)).setCell ⟨x4, 11, none⟩ (.int .u64 B1.last.via)).setCell ⟨x4, 12, none⟩ (.int .u64 B1.last.old)).setCell ⟨x4, 13, none⟩ (.int .u64 B1.last.new)).setCell ⟨x4, 14, none⟩ (.bool B1.last.done))) := hid ⟨Blk.chg C1.out.1 HC.out (by have := XS.out; omega), Blk.chg C1.out.2.1 HC.out (by have := XS.out; omega), C1.out.2.2.step HC.out (by rintro i rfl; have := XS.out; omega)⟩
  generalize (((((((((((((((w1.setCell ⟨x4, 0, none⟩ (.int .i64 c.th)).setCell ⟨x4, 1, none⟩ (.int .i64 c.sl)).setCell ⟨x4, 2, none⟩ (.int .i64 c.cp)).setCell ⟨x4, 3, none⟩ (.int .i64 c.he)).setCell ⟨x4, 4, none⟩ (.int .i64 c.ke)).setCell ⟨x4, 5, none⟩ (.int .i64 c.ev)).setCell ⟨x4, 6, none⟩ (.int .i64 c.la)).setCell ⟨x4, 7, none⟩ (.slice A1 B1.cells.length cap1)).setCell ⟨x4, 8, none⟩ (.int .i64 B1.count)).setCell ⟨x4, 9, none⟩ (.int .i64 B1.last.kind)).setCell ⟨x4, 10, none⟩ (.int .i64 B1.last.cell)).setCell ⟨x4, 11, none⟩ (.int .u64 B1.last.via)).setCell ⟨x4, 12, none⟩ (.int .u64 B1.last.old)).setCell ⟨x4, 13, none⟩ (.int .u64 B1.last.new)).setCell ⟨x4, 14, none⟩ (.bool B1.last.done)) = w2 at *
  refine ⟨C2.out, ?_⟩
  refine ⟨by kernel_rfl, ?_⟩
  go_wp2_with fail
  refine bodyPost_ret (v := mval c (.slice A1 B1.cells.length cap1) B1) (res67 _ x4 _ c (.slice A1 B1.cells.length cap1) B1 ⟨_, _, _, rfl⟩ rfl F4.out) rfl ⟨_, rfl, HW1.out.keep HC.out (fun a n cc e _ hk => NX.out a n cc e x4 (by have := XS.out; omega) (by have := XS.out; omega) hk), C2.out.2.2, HF.out⟩

end Go.Proofs.YthbkncklliiooaaH

namespace Go.Proofs.YthbkncklliiooaaH
set_option linter.unusedVariables false
set_option linter.unusedSimpArgs false
open Go.RowKit Go.Proofs.Ythbkncklliiooaa.Q

/-- What is written: ahead of which step, where, and what. -/
structure P3 where
  st : Int
  cell : Int
  v : Int
def z3 : P3 := ⟨0, 0, 0⟩
theorem add_block (a : Addr) (n : Nat) : (a.add n).block = a.block := by simp [Addr.add, apply_ite]
/-- A row of them at an address. -/
def PkRow (w : World) (A : Option Addr) (ps : List P3) : Prop := ∀ i, i < ps.length → ∃ a, A = some a ∧ w.cell? (a.add (i * 3)) = some (.int .i64 (ps.getD i z3).st) ∧
  w.cell? ⟨(a.add (i * 3)).block, (a.add (i * 3)).off + 1, none⟩ = some (.int .i64 (ps.getD i z3).cell) ∧ w.cell? ⟨(a.add (i * 3)).block, (a.add (i * 3)).off + 2, none⟩ = some (.int .u64 (ps.getD i z3).v)
theorem PkRow.chg {F : Nat → Prop} {w w' : World} {A : Option Addr} {ps : List P3} (h : PkRow w A ps) (g : Chg F w w') (hf : ∀ a, A = some a → 0 < ps.length → ¬ F a.block) : PkRow w' A ps := by
  intro i hi
  obtain ⟨a, rfl, c0, c1, c2⟩ := h i hi
  have hn := hf a rfl (by omega)
  rw [← add_block a (i * 3)] at hn
  exact ⟨a, rfl, g.cell c0 hn, g.cell c1 hn, g.cell c2 hn⟩
/-- A slice stands in neither of the bank's blocks. -/
def Away (p q : Nat) (s : Value) : Prop := ∀ a n c, s = .slice (some a) n c → a.block ≠ p ∧ a.block ≠ q
/-- What is left of both. -/
def Poked (w : World) (m p q : Nat) (c : Cf) (n : Nat) (s0 : Value) (e : Ending) (w' : World) : Prop :=
  ∃ B s, Fresh w s0 s ∧ e = .returned (mval c s B) ∧ IsMem w' m p q c B ∧ Words w' s B.cells ∧ Away p q s ∧ B.Wd ∧ B.cells.length = n ∧ Chg (Two p q) w w'
/-- What is there at each round. -/
structure Pin (w : World) (m p q x5 x8 : Nat) (c : Cf) (n : Nat) (z : Array Value) (s0 : Value) (B : Bk) (s : Value) (wr : World) : Prop where
  fr : Fresh w s0 s
  mem : IsMem wr m p q c B
  r : ∃ A cap, s = .slice A B.cells.length cap ∧ Blk wr x5 #[.int .i64 c.th, .int .i64 c.sl, .int .i64 c.cp, .int .i64 c.he, .int .i64 c.ke, .int .i64 c.ev, .int .i64 c.la, .slice A B.cells.length cap, .int .i64 B.count, .int .i64 B.last.kind, .int .i64 B.last.cell, .int .u64 B.last.via, .int .u64 B.last.old, .int .u64 B.last.new, .bool B.last.done] 50
  o : Blk wr x8 z 50
  words : Words wr s B.cells
  away : Away p q s
  own : ∀ a n c, s = .slice (some a) n c → a.block ≠ x5 ∧ a.block ≠ x8
  wd : B.Wd
  len : B.cells.length = n
  chg : Chg (Two p q) w wr
theorem Two.of (p q k : Nat) (h : ¬ (k = p ∨ k = q)) : ¬ Two p q k := h
/-- A slice that is written anew, or the same, stands where it may. -/
theorem away_fresh {F : Nat → Prop} {w0 : World} {s s1 : Value} (hf : Fresh w0 s s1) (h : ∀ a n c, s = .slice (some a) n c → ¬ F a.block) (hF : ∀ k, F k → k < w0.heap.size) : ∀ a n c, s1 = .slice (some a) n c → ¬ F a.block := by
  intro a n c e
  rcases hf with rfl | hf
  · exact h a n c e
  · exact fun k => by have := hf a n c e; have := hF _ k; omega
/-- What is put into a block that was made since is no change of what was there. -/
theorem Chg.step_new {F : Nat → Prop} {a b c : World} {y : Nat} (h : Chg F a b) (g : Chg (· = y) b c) (hy : a.heap.size ≤ y) : Chg F a c :=
  ⟨g.os.trans h.os, g.tape.trans h.tape, g.output.trans h.output, Nat.le_trans h.size g.size, fun i hi hf => (g.block i (Nat.lt_of_lt_of_le hi h.size) (fun e => by omega)).trans (h.block i hi hf)⟩
theorem Fresh.trans {w w1 : World} {s s1 s2 : Value} (h : Fresh w s s1) (k : Fresh w1 s1 s2) (g : w.heap.size ≤ w1.heap.size) : Fresh w s s2 := k.elim (fun e => e ▸ h) fun k => .inr fun a n c e => Nat.le_trans g (k a n c e)
theorem store_len (B : Bk) (x y v : Int) : (B.store x y v).cells.length = B.cells.length := by unfold Bk.store; split <;> simp [Bk.done, Bk.none]

theorem res44 (t : Array Value) (x : Nat) (W : World) (c : Cf) (s : Value) (B : Bk) (hs : ∃ p n c, s = .slice p n c) (hx : t.getD 8 undef = .pointer (some ⟨x, 0, none⟩))
    (bx : Blk W x #[.int .i64 c.th, .int .i64 c.sl, .int .i64 c.cp, .int .i64 c.he, .int .i64 c.ke, .int .i64 c.ev, .int .i64 c.la, s, .int .i64 B.count, .int .i64 B.last.kind, .int .i64 B.last.cell, .int .u64 B.last.via, .int .u64 B.last.old, .int .u64 B.last.new, .bool B.last.done] 50) :
    (results Try.f44 t).run Try.prog W = .ok (mval c s B) W := by
  obtain ⟨p, n, cp, rfl⟩ := hs
  have x0 : W.cell? ⟨x, 0, none⟩ = some (.int .i64 c.th) := bx.cell rfl
  have x1 : W.cell? ⟨x, 1, none⟩ = some (.int .i64 c.sl) := bx.cell rfl
  have x2 : W.cell? ⟨x, 2, none⟩ = some (.int .i64 c.cp) := bx.cell rfl
  have x3 : W.cell? ⟨x, 3, none⟩ = some (.int .i64 c.he) := bx.cell rfl
  have x4 : W.cell? ⟨x, 4, none⟩ = some (.int .i64 c.ke) := bx.cell rfl
  have x5 : W.cell? ⟨x, 5, none⟩ = some (.int .i64 c.ev) := bx.cell rfl
  have x6 : W.cell? ⟨x, 6, none⟩ = some (.int .i64 c.la) := bx.cell rfl
  have x7 : W.cell? ⟨x, 7, none⟩ = some (.slice p n cp) := bx.cell rfl
  have x8 : W.cell? ⟨x, 8, none⟩ = some (.int .i64 B.count) := bx.cell rfl
  have x9 : W.cell? ⟨x, 9, none⟩ = some (.int .i64 B.last.kind) := bx.cell rfl
  have x10 : W.cell? ⟨x, 10, none⟩ = some (.int .i64 B.last.cell) := bx.cell rfl
  have x11 : W.cell? ⟨x, 11, none⟩ = some (.int .u64 B.last.via) := bx.cell rfl
  have x12 : W.cell? ⟨x, 12, none⟩ = some (.int .u64 B.last.old) := bx.cell rfl
  have x13 : W.cell? ⟨x, 13, none⟩ = some (.int .u64 B.last.new) := bx.cell rfl
  have x14 : W.cell? ⟨x, 14, none⟩ = some (.bool B.last.done) := bx.cell rfl
  simp only [Array.getD_eq_getD_getElem?] at hx
  simp [results, Try.results44, go_sem, mval, hx, x0, x1, x2, x3, x4, x5, x6, x7, x8, x9, x10, x11, x12, x13, x14]

set_option maxRecDepth 100000 in
set_option maxHeartbeats 4000000 in
theorem poked_some (m p q : Nat) (c : Cf) (B : Bk) (s : Value) (w : World) (hm : IsMem w m p q c B) (hB : B.Wd) (hv : Words w s B.cells) (ha : Away p q s) (hne : B.cells ≠ []) (hl : B.cells.length ≤ 400)
    (a : Addr) (cap : Nat) (ps : List P3) (hp : PkRow w (some a) ps) (hpa : 0 < ps.length → a.block ≠ p ∧ a.block ≠ q) (hu : ∀ x ∈ ps, U64 x.v) (hpl : ps.length ≤ 30) (k : Int) :
    Calls Try.prog 44 #[.pointer (some ⟨m, 0, none⟩), mval c s B, .slice (some a) ps.length cap, .int .i64 k] w (Poked w m p q c B.cells.length s) := by
  obtain ⟨A, cs, rfl⟩ := hv.slice
  have HM := hid hm
  have HB := hid hB
  have HV := hid hv
  have HA := hid ha
  have HN := hid hne
  have HL := hid hl
  have HP := hid hp
  have HU := hid hu
  have HPA := hid hpa
  clear hpa
  clear hm hB hv ha hne hl hp hu
  unfold mval
  go_enter Try.func44, Try.ntmps44
  go_wp2_with fail
  have G0 := hid (((Gr.refl w).alloc (.cells #[.int .i64 c.th, .int .i64 c.sl, .int .i64 c.cp, .int .i64 c.he, .int .i64 c.ke, .int .i64 c.ev, .int .i64 c.la, .slice A B.cells.length cs, .int .i64 B.count, .int .i64 B.last.kind, .int .i64 B.last.cell, .int .u64 B.last.via, .int .u64 B.last.old, .int .u64 B.last.new, .bool B.last.done] 50)).alloc (.cells #[.int .i64 0, .int .i64 0, .int .i64 0, .int .i64 0, .int .i64 0, .int .i64 0, .int .i64 0, .slice none 0 0, .int .i64 0, .int .i64 0, .int .i64 0, .int .u64 0, .int .u64 0, .int .u64 0, .bool false] 50))
  have A5 : Hid (Blk ((w.alloc (.cells #[.int .i64 c.th, .int .i64 c.sl, .int .i64 c.cp, .int .i64 c.he, .int .i64 c.ke, .int .i64 c.ev, .int .i64 c.la, .slice A B.cells.length cs, .int .i64 B.count, .int .i64 B.last.kind, .int .i64 B.last.cell, .int .u64 B.last.via, .int .u64 B.last.old, .int .u64 B.last.new, .bool B.last.done] 50)).alloc (.cells #[.int .i64 0, .int .i64 0, .int .i64 0, .int .i64 0, .int .i64 0, .int .i64 0, .int .i64 0, .slice none 0 0, .int .i64 0, .int .i64 0, .int .i64 0, .int .u64 0, .int .u64 0, .int .u64 0, .bool false] 50)) w.heap.size #[.int .i64 c.th, .int .i64 c.sl, .int .i64 c.cp, .int .i64 c.he, .int .i64 c.ke, .int .i64 c.ev, .int .i64 c.la, .slice A B.cells.length cs, .int .i64 B.count, .int .i64 B.last.kind, .int .i64 B.last.cell, .int .u64 B.last.via, .int .u64 B.last.old, .int .u64 B.last.new, .bool B.last.done] 50) := hid ((Blk.new w #[.int .i64 c.th, .int .i64 c.sl, .int .i64 c.cp, .int .i64 c.he, .int .i64 c.ke, .int .i64 c.ev, .int .i64 c.la, .slice A B.cells.length cs, .int .i64 B.count, .int .i64 B.last.kind, .int .i64 B.last.cell, .int .u64 B.last.via, .int .u64 B.last.old, .int .u64 B.last.new, .bool B.last.done] 50).alloc _)
  have A8 : Hid (Blk ((w.alloc (.cells #[.int .i64 c.th, .int .i64 c.sl, .int .i64 c.cp, .int .i64 c.he, .int .i64 c.ke, .int .i64 c.ev, .int .i64 c.la, .slice A B.cells.length cs, .int .i64 B.count, .int .i64 B.last.kind, .int .i64 B.last.cell, .int .u64 B.last.via, .int .u64 B.last.old, .int .u64 B.last.new, .bool B.last.done] 50)).alloc (.cells #[.int .i64 0, .int .i64 0, .int .i64 0, .int .i64 0, .int .i64 0, .int .i64 0, .int .i64 0, .slice none 0 0, .int .i64 0, .int .i64 0, .int .i64 0, .int .u64 0, .int .u64 0, .int .u64 0, .bool false] 50)) (w.heap.size + 1) #[.int .i64 0, .int .i64 0, .int .i64 0, .int .i64 0, .int .i64 0, .int .i64 0, .int .i64 0, .slice none 0 0, .int .i64 0, .int .i64 0, .int .i64 0, .int .u64 0, .int .u64 0, .int .u64 0, .bool false] 50) := hid (Blk.new' (by simp))
  generalize ((w.alloc (.cells #[.int .i64 c.th, .int .i64 c.sl, .int .i64 c.cp, .int .i64 c.he, .int .i64 c.ke, .int .i64 c.ev, .int .i64 c.la, .slice A B.cells.length cs, .int .i64 B.count, .int .i64 B.last.kind, .int .i64 B.last.cell, .int .u64 B.last.via, .int .u64 B.last.old, .int .u64 B.last.new, .bool B.last.done] 50)).alloc (.cells #[.int .i64 0, .int .i64 0, .int .i64 0, .int .i64 0, .int .i64 0, .int .i64 0, .int .i64 0, .slice none 0 0, .int .i64 0, .int .i64 0, .int .i64 0, .int .u64 0, .int .u64 0, .int .u64 0, .bool false] 50)) = W0 at *
  have XS0 : w.heap.size + 1 < W0.heap.size := A8.out.lt
  generalize e8 : w.heap.size + 1 = x8 at *
  generalize e5 : w.heap.size = x5 at *
  have plt : p < w.heap.size := HM.out.bank.head.lt
  have qlt : q < w.heap.size := HM.out.bank.row.lt
  have mlt : m < w.heap.size := HM.out.mem.lt
  have XS : Hid (x5 = w.heap.size ∧ x5 < x8 ∧ x8 < W0.heap.size ∧ p < x5 ∧ q < x5 ∧ m < x5) := hid ⟨e5.symm, by omega, XS0, by omega, by omega, by omega⟩
  have P0 : Hid (Pin w m p q x5 x8 c B.cells.length #[.int .i64 0, .int .i64 0, .int .i64 0, .int .i64 0, .int .i64 0, .int .i64 0, .int .i64 0, .slice none 0 0, .int .i64 0, .int .i64 0, .int .i64 0, .int .u64 0, .int .u64 0, .int .u64 0, .bool false] (.slice A B.cells.length cs) B (.slice A B.cells.length cs) W0) := hid ⟨.inl rfl, HM.out.gr G0.out, ⟨A, cs, rfl, A5.out⟩, A8.out, HV.out.gr G0.out, HA.out, (fun a n cc e => by
    cases e
    have h0 := HV.out.elem (i := 0) (List.length_pos_iff.2 HN.out)
    have := lt_of_cell h0
    rw [add_block] at this
    have := XS.out
    constructor <;> omega), HB.out, rfl, G0.out.chg⟩
  clear XS0 e8 e5 plt qlt mlt A5 A8
  go_loopw [13] (fun i wr => ∃ (n : Nat) (B1 : Bk) (s1 : Value), n ≤ ps.length ∧ i = .int .i64 (n : Int) ∧ Pin w m p q x5 x8 c B.cells.length #[.int .i64 0, .int .i64 0, .int .i64 0, .int .i64 0, .int .i64 0, .int .i64 0, .int .i64 0, .slice none 0 0, .int .i64 0, .int .i64 0, .int .i64 0, .int .u64 0, .int .u64 0, .int .u64 0, .bool false] (.slice A B.cells.length cs) B1 s1 wr) (fun i _ => ps.length - (intOf i).toNat)
  case atStart => exact ⟨0, B, _, Nat.zero_le _, rfl, P0.out⟩
  case round =>
    obtain ⟨n, B1, s1, hn, rfl, hpin⟩ := hrel
    have PI := hid hpin
    clear hpin
    obtain ⟨A1, cap1, rfl, hr1⟩ := PI.out.r
    have X5 := hid hr1
    clear hr1
    by_cases hlt : n < ps.length
    · have hlt' : (n : Int) < ps.length := by omega
      have hn0 : 0 ≤ (n : Int) := by omega
      have hpr := HP.out.chg PI.out.chg (fun a' e h => by cases e; intro hk; have := HPA.out h; rcases hk with hk | hk <;> omega)
      obtain ⟨a', e, c0, c1, c2⟩ := hpr n hlt
      cases e
      have hvu := HU.out (ps.getD n z3) (by rw [List.getD_eq_getElem?_getD, List.getElem?_eq_getElem hlt]; exact List.getElem_mem hlt)
      generalize ps.getD n z3 = pk at *
      obtain ⟨pst, pcell, pv⟩ := pk
      simp only at c0 c1 c2 hvu
      have HVU := hid hvu
      clear hpr hvu
      by_cases hk : pst = k
      · subst hk
        have hd : (pst == pst) = true := by simp
        go_wp2_with fail
        have GN : Hid (Gr wr (wr.alloc (.cells #[.int .i64 pst, .int .i64 pcell, .int .u64 pv] 117))) := hid ((Gr.refl wr).alloc _)
        have BN : Hid (Blk (wr.alloc (.cells #[.int .i64 pst, .int .i64 pcell, .int .u64 pv] 117)) wr.heap.size #[.int .i64 pst, .int .i64 pcell, .int .u64 pv] 117) := hid (Blk.new _ _ _)
        have rlt := PI.out.chg.size
        have BX : Hid (x8 < wr.heap.size ∧ p < wr.heap.size ∧ q < wr.heap.size ∧ x5 ≠ wr.heap.size) := hid (by have := PI.out.o.lt; have := XS.out; exact ⟨by omega, by omega, by omega, by omega⟩)
        clear c0 c1 c2 hd rlt
        generalize (wr.alloc (.cells #[.int .i64 pst, .int .i64 pcell, .int .u64 pv] 117)) = W1 at *
        generalize hbx : wr.heap.size = bx at *
        clear hbx
        refine wp_region_anyC (n := 7) (Chg (Two p q) W1) (by kernel_rfl) rfl ?_
        have CD : Hid (Chg (Two p q) W1 W1.drew) := hid (Chg.refl _ W1).drew
        have GD : Hid (Gr wr W1.drew) := hid GN.out.drew
        have BD := hid (Blk.drew BN.out)
        have MD := hid (PI.out.mem.gr GD.out)
        generalize W1.drew = wd at *
        refine anyC_quiet (a1 := ?a1) (by kernel_rfl) 2 [0, 2, 3, 4, 5] _ _ _ (by kernel_rfl) (by kernel_rfl) CD.out ?_ ?_
        rotate_left
        · intro w' g'
          have hne : Nonempty (St (· = w')) := ⟨⟨w', rfl⟩⟩
          have X3 := Blk.chg BN.out g' (fun k => by have := BX.out; rcases k with k | k <;> omega)
          obtain ⟨y0, y1, y2⟩ := st3 (X3)
          clear X3
          clear g'
          conv => arg 5; simp only [picked, List.filterMap_cons, List.filterMap_nil, List.getElem?_toArray, List.getElem?_cons_zero, List.getElem?_cons_succ]
          show wpQuiet _ _ _ _ [_, _, _, _, _] _
          repeat (go_big_quiet_step (fail))
          refine wpQuiet_nil ?_
          rfl
        refine anyC_alone 1 CD.out (by kernel_rfl) (by kernel_rfl) ?_
        conv => arg 4; simp only [picked, List.filterMap_cons, List.filterMap_nil, List.getElem?_toArray, List.getElem?_cons_zero, List.getElem?_cons_succ]
        show wpList _ _ _ [_] _ _
        go_wp2_with fail
        refine (mbank_any m p q c B1 _ MD.out).mono ?_
        rintro e we ⟨rfl, rfl⟩
        go_wp2_with fail
        refine ⟨CD.out, ?_⟩
        refine anyC_alone 6 CD.out (by kernel_rfl) (by kernel_rfl) ?_
        conv => arg 4; simp only [picked, List.filterMap_cons, List.filterMap_nil, List.getElem?_toArray, List.getElem?_cons_zero, List.getElem?_cons_succ]
        show wpList _ _ _ [_] _ _
        go_wp2_with fail
        refine (store_any p q B1 pcell 0 pv _ MD.out.bank).mono ?_
        rintro e w2 ⟨rfl, hb2, g2⟩
        have C2 := hid (CD.out.trans g2)
        have M2 : Hid (IsMem w2 m p q c (B1.store pcell 0 pv)) := hid ⟨MD.out.mem.chg g2 (fun k => k.elim MD.out.nmp MD.out.nmq), hb2, MD.out.nmp, MD.out.nmq⟩
        have X52 := hid (Blk.chg (Blk.gr X5.out GD.out) g2 (fun k => by have := XS.out; rcases k with k | k <;> omega))
        have X82 := hid (Blk.chg (Blk.gr PI.out.o GD.out) g2 (fun k => by have := XS.out; rcases k with k | k <;> omega))
        have BN2 := hid (Blk.chg BD.out g2 (fun k => by have := BX.out; rcases k with k | k <;> omega))
        have WW2 := hid ((PI.out.words.gr GD.out).keep g2 (fun a n cc e _ hk => by have := PI.out.away a n cc e; rcases hk with hk | hk <;> omega))
        have G2 := hid ((PI.out.chg.trans GD.out.chg).trans g2)
        clear hb2 g2
        go_wp2_with fail
        refine ⟨C2.out, ?_⟩
        refine ⟨by kernel_rfl, ?_⟩
        obtain ⟨u0, u1, u2, u3, u4, u5, u6, u7, u8, u9, u10, u11, u12, u13, u14⟩ := cells15 (X52.out)
        obtain ⟨v0, v1, v2⟩ := cells3 (BN2.out)
        have hpk := hid (rpoke_any c (.slice A1 B1.cells.length cap1) B1 pst pcell pv w2 WW2.out (by intro h0; have := PI.out.len; rw [h0] at this; exact HN.out (List.eq_nil_of_length_eq_zero this.symm)) (by have := PI.out.len; have := HL.out; omega))
        unfold mval PTold mval at hpk
        have WD2 : Hid (B1.store pcell 0 pv).Wd := hid (wd_store PI.out.wd _ _ _ HVU.out)
        have LN2 : Hid ((B1.store pcell 0 pv).cells.length = B.cells.length) := hid ((store_len _ _ _ _).trans PI.out.len)
        generalize B1.store pcell 0 pv = B2 at *
        go_wp2_with fail
        refine hpk.out.mono ?_
        rintro e w3 ⟨s2, rfl, hw2, g3, hf2⟩
        obtain ⟨A2, cap2, rfl⟩ := hw2.slice
        clear hpk u0 u1 u2 u3 u4 u5 u6 u7 u8 u9 u10 u11 u12 u13 u14 v0 v1 v2
        have aw2 := away_fresh (F := fun k => k = p ∨ k = q ∨ k = x5 ∨ k = x8) hf2 (fun a n cc e hk => by have := PI.out.away a n cc e; have := PI.out.own a n cc e; omega) (fun k hk => by have := X82.out.lt; have := XS.out; omega)
        have FR2 := hid (PI.out.fr.trans hf2 G2.out.size)
        have HW2 := hid hw2
        have AW2 := hid aw2
        have G3 := hid g3
        have X53 := hid (Blk.gr X52.out g3)
        have X83 := hid (Blk.gr X82.out g3)
        have M3 := hid (M2.out.gr g3)
        clear hw2 g3 hf2 aw2
        obtain ⟨q0, q1, q2, q3, q4, q5, q6, q7, q8, q9, q10, q11, q12, q13, q14⟩ := cells15 (X53.out)
        have ql := X53.out.lt
        have qf := fun i => Blk.free X53.out i
        go_wp2_with fail
        have F5 := blk_put15 X53.out (.int .i64 c.th) (.int .i64 c.sl) (.int .i64 c.cp) (.int .i64 c.he) (.int .i64 c.ke) (.int .i64 c.ev) (.int .i64 c.la) (.slice A2 B2.cells.length cap2) (.int .i64 B2.count) (.int .i64 B2.last.kind) (.int .i64 B2.last.cell) (.int .u64 B2.last.via) (.int .u64 B2.last.old) (.int .u64 B2.last.new) (.bool B2.last.done)
        have HC := chg_put15 w3 x5 (.int .i64 c.th) (.int .i64 c.sl) (.int .i64 c.cp) (.int .i64 c.he) (.int .i64 c.ke) (.int .i64 c.ev) (.int .i64 c.la) (.slice A2 B2.cells.length cap2) (.int .i64 B2.count) (.int .i64 B2.last.kind) (.int .i64 B2.last.cell) (.int .u64 B2.last.via) (.int .u64 B2.last.old) (.int .u64 B2.last.new) (.bool B2.last.done)
        go_roundw
        case rel => exact ⟨n + 1, B2, _, by omega, by go_num, ⟨FR2.out, M3.out.chg HC (by have := XS.out; omega) (by have := XS.out; omega) (by have := XS.out; omega), ⟨A2, cap2, rfl, F5⟩, Blk.chg X83.out HC (by have := XS.out; omega), HW2.out.keep HC (fun a n cc e _ hk => AW2.out a n cc e (by simp [hk])), (fun a n cc e => by have := AW2.out a n cc e; simp only [not_or] at this; exact ⟨this.1, this.2.1⟩), (fun a n cc e => by have := AW2.out a n cc e; simp only [not_or] at this; exact ⟨this.2.2.1, this.2.2.2⟩), WD2.out, LN2.out, Chg.step_new (G2.out.trans G3.out.chg) HC (by have := XS.out; omega)⟩⟩
        case measure => simp [intOf]; omega
      · have hd : (pst == k) = false := by simpa using hk
        go_wp2_with fail
        have GN : Gr wr (wr.alloc (.cells #[.int .i64 pst, .int .i64 pcell, .int .u64 pv] 117)) := (Gr.refl wr).alloc _
        go_roundw
        case rel => exact ⟨n + 1, B1, _, by omega, by go_num, ⟨PI.out.fr, PI.out.mem.gr GN, ⟨A1, cap1, rfl, Blk.gr X5.out GN⟩, Blk.gr PI.out.o GN, PI.out.words.gr GN, PI.out.away, PI.out.own, PI.out.wd, PI.out.len, PI.out.chg.trans GN.chg⟩⟩
        case measure => simp [intOf]; omega
    · have hge : ¬ (n : Int) < ps.length := by omega
      obtain ⟨u0, u1, u2, u3, u4, u5, u6, u7, u8, u9, u10, u11, u12, u13, u14⟩ := cells15 (X5.out)
      obtain ⟨q0, q1, q2, q3, q4, q5, q6, q7, q8, q9, q10, q11, q12, q13, q14⟩ := cells15 (PI.out.o)
      have ql := PI.out.o.lt
      have qf := fun i => Blk.free PI.out.o i
      go_wp2_with fail
      have F8 := blk_put15 PI.out.o (.int .i64 c.th) (.int .i64 c.sl) (.int .i64 c.cp) (.int .i64 c.he) (.int .i64 c.ke) (.int .i64 c.ev) (.int .i64 c.la) (.slice A1 B1.cells.length cap1) (.int .i64 B1.count) (.int .i64 B1.last.kind) (.int .i64 B1.last.cell) (.int .u64 B1.last.via) (.int .u64 B1.last.old) (.int .u64 B1.last.new) (.bool B1.last.done)
      have HC := chg_put15 wr x8 (.int .i64 c.th) (.int .i64 c.sl) (.int .i64 c.cp) (.int .i64 c.he) (.int .i64 c.ke) (.int .i64 c.ev) (.int .i64 c.la) (.slice A1 B1.cells.length cap1) (.int .i64 B1.count) (.int .i64 B1.last.kind) (.int .i64 B1.last.cell) (.int .u64 B1.last.via) (.int .u64 B1.last.old) (.int .u64 B1.last.new) (.bool B1.last.done)
      refine bodyPost_ret (v := mval c (.slice A1 B1.cells.length cap1) B1) (res44 _ x8 _ c (.slice A1 B1.cells.length cap1) B1 ⟨_, _, _, rfl⟩ rfl F8) rfl ⟨B1, _, PI.out.fr, rfl, ?_, ?_, PI.out.away, PI.out.wd, PI.out.len, ?_⟩
      · exact PI.out.mem.chg HC (by have := XS.out; omega) (by have := XS.out; omega) (by have := XS.out; omega)
      · exact PI.out.words.keep HC (fun a n cc e _ hk => (PI.out.own a n cc e).2 hk)
      · exact PI.out.chg.step_new HC (by have := XS.out; omega)

set_option maxRecDepth 100000 in
set_option maxHeartbeats 4000000 in
theorem poked_none (m p q : Nat) (c : Cf) (B : Bk) (s : Value) (w : World) (hm : IsMem w m p q c B) (hB : B.Wd) (hv : Words w s B.cells) (ha : Away p q s) (hne : B.cells ≠ []) (hl : B.cells.length ≤ 400)
    (cap : Nat) (ps : List P3) (hp : ps.length = 0) (hu : ∀ x ∈ ps, U64 x.v) (hpl : ps.length ≤ 30) (k : Int) :
    Calls Try.prog 44 #[.pointer (some ⟨m, 0, none⟩), mval c s B, .slice none ps.length cap, .int .i64 k] w (Poked w m p q c B.cells.length s) := by
  obtain ⟨A, cs, rfl⟩ := hv.slice
  have HM := hid hm
  have HB := hid hB
  have HV := hid hv
  have HA := hid ha
  have HN := hid hne
  have HL := hid hl
  have HP := hid hp
  have HU := hid hu
  clear hm hB hv ha hne hl hp hu
  unfold mval
  go_enter Try.func44, Try.ntmps44
  go_wp2_with fail
  have G0 := hid (((Gr.refl w).alloc (.cells #[.int .i64 c.th, .int .i64 c.sl, .int .i64 c.cp, .int .i64 c.he, .int .i64 c.ke, .int .i64 c.ev, .int .i64 c.la, .slice A B.cells.length cs, .int .i64 B.count, .int .i64 B.last.kind, .int .i64 B.last.cell, .int .u64 B.last.via, .int .u64 B.last.old, .int .u64 B.last.new, .bool B.last.done] 50)).alloc (.cells #[.int .i64 0, .int .i64 0, .int .i64 0, .int .i64 0, .int .i64 0, .int .i64 0, .int .i64 0, .slice none 0 0, .int .i64 0, .int .i64 0, .int .i64 0, .int .u64 0, .int .u64 0, .int .u64 0, .bool false] 50))
  have A5 : Hid (Blk ((w.alloc (.cells #[.int .i64 c.th, .int .i64 c.sl, .int .i64 c.cp, .int .i64 c.he, .int .i64 c.ke, .int .i64 c.ev, .int .i64 c.la, .slice A B.cells.length cs, .int .i64 B.count, .int .i64 B.last.kind, .int .i64 B.last.cell, .int .u64 B.last.via, .int .u64 B.last.old, .int .u64 B.last.new, .bool B.last.done] 50)).alloc (.cells #[.int .i64 0, .int .i64 0, .int .i64 0, .int .i64 0, .int .i64 0, .int .i64 0, .int .i64 0, .slice none 0 0, .int .i64 0, .int .i64 0, .int .i64 0, .int .u64 0, .int .u64 0, .int .u64 0, .bool false] 50)) w.heap.size #[.int .i64 c.th, .int .i64 c.sl, .int .i64 c.cp, .int .i64 c.he, .int .i64 c.ke, .int .i64 c.ev, .int .i64 c.la, .slice A B.cells.length cs, .int .i64 B.count, .int .i64 B.last.kind, .int .i64 B.last.cell, .int .u64 B.last.via, .int .u64 B.last.old, .int .u64 B.last.new, .bool B.last.done] 50) := hid ((Blk.new w #[.int .i64 c.th, .int .i64 c.sl, .int .i64 c.cp, .int .i64 c.he, .int .i64 c.ke, .int .i64 c.ev, .int .i64 c.la, .slice A B.cells.length cs, .int .i64 B.count, .int .i64 B.last.kind, .int .i64 B.last.cell, .int .u64 B.last.via, .int .u64 B.last.old, .int .u64 B.last.new, .bool B.last.done] 50).alloc _)
  have A8 : Hid (Blk ((w.alloc (.cells #[.int .i64 c.th, .int .i64 c.sl, .int .i64 c.cp, .int .i64 c.he, .int .i64 c.ke, .int .i64 c.ev, .int .i64 c.la, .slice A B.cells.length cs, .int .i64 B.count, .int .i64 B.last.kind, .int .i64 B.last.cell, .int .u64 B.last.via, .int .u64 B.last.old, .int .u64 B.last.new, .bool B.last.done] 50)).alloc (.cells #[.int .i64 0, .int .i64 0, .int .i64 0, .int .i64 0, .int .i64 0, .int .i64 0, .int .i64 0, .slice none 0 0, .int .i64 0, .int .i64 0, .int .i64 0, .int .u64 0, .int .u64 0, .int .u64 0, .bool false] 50)) (w.heap.size + 1) #[.int .i64 0, .int .i64 0, .int .i64 0, .int .i64 0, .int .i64 0, .int .i64 0, .int .i64 0, .slice none 0 0, .int .i64 0, .int .i64 0, .int .i64 0, .int .u64 0, .int .u64 0, .int .u64 0, .bool false] 50) := hid (Blk.new' (by simp))
  generalize ((w.alloc (.cells #[.int .i64 c.th, .int .i64 c.sl, .int .i64 c.cp, .int .i64 c.he, .int .i64 c.ke, .int .i64 c.ev, .int .i64 c.la, .slice A B.cells.length cs, .int .i64 B.count, .int .i64 B.last.kind, .int .i64 B.last.cell, .int .u64 B.last.via, .int .u64 B.last.old, .int .u64 B.last.new, .bool B.last.done] 50)).alloc (.cells #[.int .i64 0, .int .i64 0, .int .i64 0, .int .i64 0, .int .i64 0, .int .i64 0, .int .i64 0, .slice none 0 0, .int .i64 0, .int .i64 0, .int .i64 0, .int .u64 0, .int .u64 0, .int .u64 0, .bool false] 50)) = W0 at *
  have XS0 : w.heap.size + 1 < W0.heap.size := A8.out.lt
  generalize e8 : w.heap.size + 1 = x8 at *
  generalize e5 : w.heap.size = x5 at *
  have plt : p < w.heap.size := HM.out.bank.head.lt
  have qlt : q < w.heap.size := HM.out.bank.row.lt
  have mlt : m < w.heap.size := HM.out.mem.lt
  have XS : Hid (x5 = w.heap.size ∧ x5 < x8 ∧ x8 < W0.heap.size ∧ p < x5 ∧ q < x5 ∧ m < x5) := hid ⟨e5.symm, by omega, XS0, by omega, by omega, by omega⟩
  have P0 : Hid (Pin w m p q x5 x8 c B.cells.length #[.int .i64 0, .int .i64 0, .int .i64 0, .int .i64 0, .int .i64 0, .int .i64 0, .int .i64 0, .slice none 0 0, .int .i64 0, .int .i64 0, .int .i64 0, .int .u64 0, .int .u64 0, .int .u64 0, .bool false] (.slice A B.cells.length cs) B (.slice A B.cells.length cs) W0) := hid ⟨.inl rfl, HM.out.gr G0.out, ⟨A, cs, rfl, A5.out⟩, A8.out, HV.out.gr G0.out, HA.out, (fun a n cc e => by
    cases e
    have h0 := HV.out.elem (i := 0) (List.length_pos_iff.2 HN.out)
    have := lt_of_cell h0
    rw [add_block] at this
    have := XS.out
    constructor <;> omega), HB.out, rfl, G0.out.chg⟩
  clear XS0 e8 e5 plt qlt mlt A5 A8
  go_loopw [13] (fun i wr => ∃ (n : Nat) (B1 : Bk) (s1 : Value), n ≤ ps.length ∧ i = .int .i64 (n : Int) ∧ Pin w m p q x5 x8 c B.cells.length #[.int .i64 0, .int .i64 0, .int .i64 0, .int .i64 0, .int .i64 0, .int .i64 0, .int .i64 0, .slice none 0 0, .int .i64 0, .int .i64 0, .int .i64 0, .int .u64 0, .int .u64 0, .int .u64 0, .bool false] (.slice A B.cells.length cs) B1 s1 wr) (fun i _ => ps.length - (intOf i).toNat)
  case atStart => exact ⟨0, B, _, Nat.zero_le _, rfl, P0.out⟩
  case round =>
    obtain ⟨n, B1, s1, hn, rfl, hpin⟩ := hrel
    have PI := hid hpin
    clear hpin
    obtain ⟨A1, cap1, rfl, hr1⟩ := PI.out.r
    have X5 := hid hr1
    clear hr1
    by_cases hlt : n < ps.length
    · have := HP.out
      omega
    · have hge : ¬ (n : Int) < ps.length := by omega
      obtain ⟨u0, u1, u2, u3, u4, u5, u6, u7, u8, u9, u10, u11, u12, u13, u14⟩ := cells15 (X5.out)
      obtain ⟨q0, q1, q2, q3, q4, q5, q6, q7, q8, q9, q10, q11, q12, q13, q14⟩ := cells15 (PI.out.o)
      have ql := PI.out.o.lt
      have qf := fun i => Blk.free PI.out.o i
      go_wp2_with fail
      have F8 := blk_put15 PI.out.o (.int .i64 c.th) (.int .i64 c.sl) (.int .i64 c.cp) (.int .i64 c.he) (.int .i64 c.ke) (.int .i64 c.ev) (.int .i64 c.la) (.slice A1 B1.cells.length cap1) (.int .i64 B1.count) (.int .i64 B1.last.kind) (.int .i64 B1.last.cell) (.int .u64 B1.last.via) (.int .u64 B1.last.old) (.int .u64 B1.last.new) (.bool B1.last.done)
      have HC := chg_put15 wr x8 (.int .i64 c.th) (.int .i64 c.sl) (.int .i64 c.cp) (.int .i64 c.he) (.int .i64 c.ke) (.int .i64 c.ev) (.int .i64 c.la) (.slice A1 B1.cells.length cap1) (.int .i64 B1.count) (.int .i64 B1.last.kind) (.int .i64 B1.last.cell) (.int .u64 B1.last.via) (.int .u64 B1.last.old) (.int .u64 B1.last.new) (.bool B1.last.done)
      refine bodyPost_ret (v := mval c (.slice A1 B1.cells.length cap1) B1) (res44 _ x8 _ c (.slice A1 B1.cells.length cap1) B1 ⟨_, _, _, rfl⟩ rfl F8) rfl ⟨B1, _, PI.out.fr, rfl, ?_, ?_, PI.out.away, PI.out.wd, PI.out.len, ?_⟩
      · exact PI.out.mem.chg HC (by have := XS.out; omega) (by have := XS.out; omega) (by have := XS.out; omega)
      · exact PI.out.words.keep HC (fun a n cc e _ hk => (PI.out.own a n cc e).2 hk)
      · exact PI.out.chg.step_new HC (by have := XS.out; omega)

end Go.Proofs.YthbkncklliiooaaH
