/-
  HelpTwo: the walk.
-/
import Derived.Test.YthbkncklliiooaaHv
import Derived.Test.YthbkncklliiooaaLc
import Derived.Test.YthbkncklliiooaaOt
namespace Go.Proofs.YthbkncklliiooaaH
set_option linter.unusedVariables false
set_option linter.unusedSimpArgs false
open Go.RowKit

theorem ends_count {c : Cf} : ∀ (k : Nat) (H : HS) (B : Bk) (N : Nat), 0 ≤ B.count → B.count ≤ N → N + k ≤ 1000000 → 0 ≤ (endsf c k H B).2.2.count ∧ (endsf c k H B).2.2.count ≤ N + k
  | 0, H, B, N, h0, h1, h2 => ⟨h0, by show B.count ≤ _; omega⟩
  | k + 1, H, B, N, h0, h1, h2 => by
    by_cases hd : H.st = .done
    · rw [endsf_done hd]; exact ⟨h0, by show B.count ≤ _; omega⟩
    · rw [endsf_succ hd]
      have hc : (H.step c B).2.count = B.count + 1 := by rw [step_count hd]; unfold wrap64; omega
      have := ends_count (c := c) k (H.step c B).1 (H.step c B).2 (N + 1) (by omega) (by omega) (by omega)
      exact ⟨this.1, by show (endsf c k _ _).2.2.count ≤ _; omega⟩

theorem step_count_le {c : Cf} {H : HS} {B : Bk} {N : Nat} (h0 : 0 ≤ B.count) (h1 : B.count ≤ N) (h2 : N ≤ 1000000) : 0 ≤ (H.step c B).2.count ∧ (H.step c B).2.count ≤ N + 1 := by
  by_cases hd : H.st = .done
  · rw [show H.step c B = (H, B) by simp only [HS.step, hd]]; exact ⟨h0, by show B.count ≤ _; omega⟩
  · have hc : (H.step c B).2.count = B.count + 1 := by rw [step_count hd]; unfold wrap64; omega
    omega

/-- Two helps of one node, over one row of words. -/
structure Two2 (c : Cf) (h : Int) (T : Nat) (l : List Int) (Ha Hb : HS) (B : Bk) : Prop where
  row : Row c h T B.cells
  a : Hinv c h T Ha B.cells
  b : Hinv c h T Hb B.cells
  kept : Kept2 c h T l B.cells
  fa : Ha.Fit
  fb : Hb.Fit
theorem Two2.swap {c : Cf} {h : Int} {T : Nat} {l : List Int} {Ha Hb : HS} {B : Bk} (t : Two2 c h T l Ha Hb B) : Two2 c h T l Hb Ha B := ⟨t.row, t.b, t.a, t.kept, t.fb, t.fa⟩
theorem Two2.step {c : Cf} {h : Int} {T : Nat} (C : Ctx c h T) {l : List Int} (R0 : Row c h T l) {Ha Hb : HS} {B : Bk} (t : Two2 c h T l Ha Hb B) : Two2 c h T l (Ha.step c B).1 Hb (Ha.step c B).2 := by
  obtain ⟨m, I⟩ := step_mk C t.row t.a
  exact ⟨m.row C t.row, I, m.hinv C t.row t.b, m.kept C R0 t.kept, step_fit c C.ok t.fa t.row.wd, t.fb⟩
theorem Two2.ends {c : Cf} {h : Int} {T : Nat} (C : Ctx c h T) {l : List Int} (R0 : Row c h T l) {Ha Hb : HS} {B : Bk} (t : Two2 c h T l Ha Hb B) (k : Nat) : Two2 c h T l (endsf c k Ha B).2.1 Hb (endsf c k Ha B).2.2 :=
  ends_pres (fun H B => Two2 c h T l H Hb B) (fun _ _ t => t.step C R0) k Ha B t
theorem Two2.new {c : Cf} {h : Int} {T : Nat} {l : List Int} (R0 : Row c h T l) (hh : U64 h) : Two2 c h T l (HS.new h) (HS.new h) ⟨l, 0, Acc.zero⟩ :=
  ⟨R0, ⟨rfl, (fun e => by rcases e with e | e <;> cases e), (fun e => by cases e)⟩, ⟨rfl, (fun e => by rcases e with e | e <;> cases e), (fun e => by cases e)⟩, ⟨rfl, fun k => .inl rfl⟩, new_fit hh, new_fit hh⟩

/-- Words of which all levels have the mark are the same. -/
theorem fin_eq {c : Cf} {h : Int} {T : Nat} (C : Ctx c h T) {l x y : List Int} (kx : Kept2 c h T l x) (ky : Kept2 c h T l y) (ax : ∀ j : Nat, j < T → Mkd c h x j) (ay : ∀ j : Nat, j < T → Mkd c h y j) : x = y := by
  apply List.ext_getElem (by rw [kx.1, ky.1])
  intro i h1 h2
  obtain ⟨f1, f2⟩ := kept_fin C kx ax i
  obtain ⟨g1, g2⟩ := kept_fin C ky ay i
  have e : x.getD i 0 = y.getD i 0 := by
    by_cases k : ∃ n : Nat, n < T ∧ i = lc c h n
    · rw [f1 k, g1 k]
    · rw [f2 k, g2 k]
  simpa [List.getD, h1, h2] using e

/-- Behind the ends of both, and of one alone: all is the same. -/
theorem two_pure {c : Cf} {h : Int} {T : Nat} (C : Ctx c h T) {l : List Int} (R0 : Row c h T l) (hh : U64 h) {Ha Hb : HS} {B : Bk} (t : Two2 c h T l Ha Hb B) (c0 : 0 ≤ B.count) (c1 : B.count ≤ (200 : Nat)) :
    (endsf c 100 Ha B).2.1.st = .done ∧ (endsf c 100 Hb (endsf c 100 Ha B).2.2).2.1.st = .done ∧ (endsf c 100 (HS.new h) ⟨l, 0, Acc.zero⟩).2.1.st = .done ∧
    (endsf c 100 Hb (endsf c 100 Ha B).2.2).2.2.cells = (endsf c 100 (HS.new h) ⟨l, 0, Acc.zero⟩).2.2.cells ∧ (endsf c 100 (HS.new h) ⟨l, 0, Acc.zero⟩).2.2.cells.length = l.length ∧ (endsf c 100 Ha B).2.2.Wd := by
  have t1 := t.ends C R0 100
  have hd1 := ends_any_done C t.row t.a (k := 100) (by omega) c0 (by omega)
  obtain ⟨n0, n1⟩ := ends_count (c := c) 100 Ha B 200 c0 c1 (by omega)
  have t2 := t1.swap.ends C R0 100
  have hd2 := ends_any_done C t1.row t1.b (k := 100) (by omega) n0 (by omega)
  have r := Runs.ends C R0 (Runs.new C R0) 100
  have hd3 := ends_any_done C R0 (Runs.new C R0).inv (k := 100) (by omega) (by show (0 : Int) ≤ 0; omega) (by show (0 : Int) ≤ 1000; omega)
  exact ⟨hd1, hd2, hd3, fin_eq C t2.kept r.kept (t2.a.dn hd2) (r.inv.dn hd3), r.kept.1, t1.row.wd⟩

set_option maxRecDepth 100000 in
set_option maxHeartbeats 8000000 in
theorem two_none (c : Cf) (v : Value) (l : List Int) (h : Int) (hh : U64 h) (A : Option Addr) (L : List Bool) (capL : Nat) (w : World) (hw : Words w v l) (hL : ∀ i, i < L.length → ∃ a, A = some a ∧ w.cell? (a.add i) = some (.bool (L.getD i false))) (hno : ¬ There c l) :
    Calls Try.prog 9 #[.agg #[.int .i64 c.th, .int .i64 c.sl, .int .i64 c.cp, .int .i64 c.he, .int .i64 c.ke, .int .i64 c.ev, .int .i64 c.la], v, .agg #[.int .u64 h, .slice A L.length capL]] w fun e w' => e = .returned (.bool true) ∧ Gr w w' := by
  have hl := fun w hw => lof_no c v l w hw hno
  unfold Cf.val zeroMem at hl
  have HL := hid hl
  have HW := hid hw
  clear hl hw hno hL
  go_enter Try.func9, Try.ntmps9
  go_wp2_with fail
  refine (HL.out _ (HW.out.gr (((Gr.refl w).alloc _).alloc _))).mono ?_
  rintro e w1 ⟨rfl, g1⟩
  have AX := hid (Blk.gr ((Blk.new w #[.int .i64 c.th, .int .i64 c.sl, .int .i64 c.cp, .int .i64 c.he, .int .i64 c.ke, .int .i64 c.ev, .int .i64 c.la] 23).alloc (.cells #[.int .u64 h, .slice A L.length capL] 43)) g1)
  have AZ : Hid (Blk w1 (w.heap.size + 1) #[.int .u64 h, .slice A L.length capL] 43) := hid (Blk.gr (Blk.new' (by simp)) g1)
  have G1 := hid (Gr.trans (((Gr.refl w).alloc _).alloc _) g1 : Gr w w1)
  clear g1
  have x0 := AX.out.cell (i := 0) rfl
  have x1 := AX.out.cell (i := 1) rfl
  have x2 := AX.out.cell (i := 2) rfl
  have x3 := AX.out.cell (i := 3) rfl
  have x4 := AX.out.cell (i := 4) rfl
  have x5 := AX.out.cell (i := 5) rfl
  have x6 := AX.out.cell (i := 6) rfl
  have alt : w.heap.size < w1.heap.size := AX.out.lt
  go_wp2_with fail
  refine (HL.out _ (HW.out.gr (G1.out.alloc _))).mono ?_
  rintro e w2 ⟨rfl, g2⟩
  clear x0 x1 x2 x3 x4 x5 x6 alt
  have BX := hid (((AX.out.alloc (.cells #[.int .i64 0, .int .i64 0, .int .i64 0, .int .i64 0, .int .i64 0, .int .i64 0, .int .i64 0, .slice none 0 0, .int .i64 0, .int .i64 0, .int .i64 0, .int .u64 0, .int .u64 0, .int .u64 0, .bool false] 50)).gr g2).alloc (.cells #[.int .i64 0, .int .i64 0, .int .i64 0, .int .i64 0, .int .i64 0, .int .i64 0, .int .i64 0, .slice none 0 0, .int .i64 0, .int .i64 0, .int .i64 0, .int .u64 0, .int .u64 0, .int .u64 0, .bool false] 50))
  have BZ := hid (((AZ.out.alloc (.cells #[.int .i64 0, .int .i64 0, .int .i64 0, .int .i64 0, .int .i64 0, .int .i64 0, .int .i64 0, .slice none 0 0, .int .i64 0, .int .i64 0, .int .i64 0, .int .u64 0, .int .u64 0, .int .u64 0, .bool false] 50)).gr g2).alloc (.cells #[.int .i64 0, .int .i64 0, .int .i64 0, .int .i64 0, .int .i64 0, .int .i64 0, .int .i64 0, .slice none 0 0, .int .i64 0, .int .i64 0, .int .i64 0, .int .u64 0, .int .u64 0, .int .u64 0, .bool false] 50))
  have G2 := hid ((Gr.trans (G1.out.alloc (.cells #[.int .i64 0, .int .i64 0, .int .i64 0, .int .i64 0, .int .i64 0, .int .i64 0, .int .i64 0, .slice none 0 0, .int .i64 0, .int .i64 0, .int .i64 0, .int .u64 0, .int .u64 0, .int .u64 0, .bool false] 50)) g2).alloc (.cells #[.int .i64 0, .int .i64 0, .int .i64 0, .int .i64 0, .int .i64 0, .int .i64 0, .int .i64 0, .slice none 0 0, .int .i64 0, .int .i64 0, .int .i64 0, .int .u64 0, .int .u64 0, .int .u64 0, .bool false] 50))
  clear g2 AX AZ G1
  have AX := hid BX.out
  have AZ := hid BZ.out
  clear BX BZ
  go_wp2_with fail
  generalize (w2.alloc (.cells #[.int .i64 0, .int .i64 0, .int .i64 0, .int .i64 0, .int .i64 0, .int .i64 0, .int .i64 0, .slice none 0 0, .int .i64 0, .int .i64 0, .int .i64 0, .int .u64 0, .int .u64 0, .int .u64 0, .bool false] 50)) = W at *
  refine wp_region_anyC (n := 12) (Gr W) (by kernel_rfl) rfl ?_
  refine anyC_quiet (a1 := ?a1) (by kernel_rfl) 6 [0, 1, 3, 4, 6, 7] _ _ _ (by kernel_rfl) (by kernel_rfl) (Gr.refl W).drew ?_ ?_
  rotate_left
  · intro w' g'
    have hne : Nonempty (St (· = w')) := ⟨⟨w', rfl⟩⟩
    have X3 := AZ.out.gr g'
    have y0 : ∀ s : St (· = w'), s.val.cell? ⟨w.heap.size + 1, 0, none⟩ = some (.int .u64 h) := fun s => by rw [s.ok]; exact X3.cell rfl
    clear X3 g'
    conv => arg 5; simp only [picked, List.filterMap_cons, List.filterMap_nil, List.getElem?_toArray, List.getElem?_cons_zero, List.getElem?_cons_succ]
    show wpQuiet _ _ _ _ [_, _, _, _, _, _] _
    repeat (go_big_quiet_step (fail))
    refine wpQuiet_nil ?_
    rfl
  refine anyC_alone 2 (Gr.refl W).drew (by kernel_rfl) (by kernel_rfl) ?_
  conv => arg 4; simp only [picked, List.filterMap_cons, List.filterMap_nil, List.getElem?_toArray, List.getElem?_cons_zero, List.getElem?_cons_succ]
  show wpList _ _ _ [_] _ _
  go_wp2_with fail
  refine (hnew_any h _).mono ?_
  rintro e w6 ⟨rfl, rfl⟩
  go_wp2_with fail
  refine ⟨(Gr.refl W).drew.alloc _, ?_⟩
  refine anyC_alone 5 ((Gr.refl W).drew.alloc _) (by kernel_rfl) (by kernel_rfl) ?_
  conv => arg 4; simp only [picked, List.filterMap_cons, List.filterMap_nil, List.getElem?_toArray, List.getElem?_cons_zero, List.getElem?_cons_succ]
  show wpList _ _ _ [_] _ _
  go_wp2_with fail
  refine (hnew_any h _).mono ?_
  rintro e w6 ⟨rfl, rfl⟩
  go_wp2_with fail
  refine ⟨((Gr.refl W).drew.alloc _).alloc _, ?_⟩
  refine anyC_alone 8 (((Gr.refl W).drew.alloc _).alloc _) (by kernel_rfl) (by kernel_rfl) ?_
  conv => arg 4; simp only [picked, List.filterMap_cons, List.filterMap_nil, List.getElem?_toArray, List.getElem?_cons_zero, List.getElem?_cons_succ]
  show wpList _ _ _ [_] _ _
  go_wp2_with fail
  refine (hnew_any h _).mono ?_
  rintro e w6 ⟨rfl, rfl⟩
  have G6 : Hid (Gr W ((((W.alloc (.cells (helpRow (HS.new h)) 98)).alloc (.cells (helpRow (HS.new h)) 98)).alloc (.cells (helpRow (HS.new h)) 98)).drew)) := hid (((((Gr.refl W).alloc _).alloc _).alloc _).drew)
  have A1 : Hid (Blk ((((W.alloc (.cells (helpRow (HS.new h)) 98)).alloc (.cells (helpRow (HS.new h)) 98)).alloc (.cells (helpRow (HS.new h)) 98)).drew) W.heap.size (helpRow (HS.new h)) 98) := hid (Blk.drew (((Blk.new' rfl).alloc _).alloc _))
  have A2 : Hid (Blk ((((W.alloc (.cells (helpRow (HS.new h)) 98)).alloc (.cells (helpRow (HS.new h)) 98)).alloc (.cells (helpRow (HS.new h)) 98)).drew) (W.heap.size + 1) (helpRow (HS.new h)) 98) := hid (Blk.drew ((Blk.new' (by simp)).alloc _))
  have A3 : Hid (Blk ((((W.alloc (.cells (helpRow (HS.new h)) 98)).alloc (.cells (helpRow (HS.new h)) 98)).alloc (.cells (helpRow (HS.new h)) 98)).drew) (W.heap.size + 2) (helpRow (HS.new h)) 98) := hid (Blk.drew (Blk.new' (by simp)))
  go_wp2_with fail
  generalize ((((W.alloc (.cells (helpRow (HS.new h)) 98)).alloc (.cells (helpRow (HS.new h)) 98)).alloc (.cells (helpRow (HS.new h)) 98)).drew) = W6 at *
  refine ⟨G6.out, ?_⟩
  refine anyC_quiet (a1 := ?a2) (by kernel_rfl) 0 [9, 10, 11] _ _ _ (by kernel_rfl) (by kernel_rfl) G6.out ?_ ?_
  rotate_left
  · intro w' g'
    have hne : Nonempty (St (· = w')) := ⟨⟨w', rfl⟩⟩
    clear g'
    conv => arg 5; simp only [picked, List.filterMap_cons, List.filterMap_nil, List.getElem?_toArray, List.getElem?_cons_zero, List.getElem?_cons_succ]
    show wpQuiet _ _ _ _ [_, _, _] _
    repeat (go_big_quiet_step (fail))
    refine wpQuiet_nil ?_
    rfl
  refine ⟨by kernel_rfl, ?_⟩
  have hne : Nonempty (St (Gr W6)) := ⟨⟨W6, Gr.refl _⟩⟩
  go_wp2_with fail
  refine wp_region_inv (Gr W6) (by kernel_rfl) (by kernel_rfl) (Gr.refl W6).drew ?_
  repeat (go_big_quiet_step (fail))
  refine wpQuiet_nil ?_
  rintro W7 ⟨⟨_, g7⟩, rfl⟩
  go_wp2_with fail
  refine (halive _).mono ?_
  rintro e W8 ⟨rfl, g8⟩
  go_wp2_with fail
  go_ret
  exact ⟨rfl, Gr.trans G2.out (Gr.trans G6.out (Gr.trans g7 g8))⟩

set_option maxRecDepth 100000 in
set_option maxHeartbeats 8000000 in
theorem two_long (c : Cf) (v : Value) (l : List Int) (h : Int) (hh : U64 h) (A : Option Addr) (L : List Bool) (capL : Nat) (w : World) (hw : Words w v l) (hL : ∀ i, i < L.length → ∃ a, A = some a ∧ w.cell? (a.add i) = some (.bool (L.getD i false))) (hth : There c l) (hlong : 200 < L.length) :
    Calls Try.prog 9 #[.agg #[.int .i64 c.th, .int .i64 c.sl, .int .i64 c.cp, .int .i64 c.he, .int .i64 c.ke, .int .i64 c.ev, .int .i64 c.la], v, .agg #[.int .u64 h, .slice A L.length capL]] w fun e w' => e = .returned (.bool true) ∧ Gr w w' := by
  have hd : decide (200 < (L.length : Int)) = true := by simp; omega
  clear hL
  have hl := fun w hw => lof_yes c v l w hw hth
  unfold Cf.val MadeBoth refMem Acc.zero at hl
  have HL := hid hl
  have HW := hid hw
  have HIX := hid (index_any h hh)
  clear hl hw
  go_enter Try.func9, Try.ntmps9
  go_wp2_with fail
  refine (HL.out _ (HW.out.gr (((Gr.refl w).alloc _).alloc _))).mono ?_
  rintro e w1 ⟨m, p, q, g, cap, rfl, hm, hwr, g1, ⟨sm, sp, sq, sg⟩, hapart, hglt⟩
  have AX := hid (Blk.gr ((Blk.new w #[.int .i64 c.th, .int .i64 c.sl, .int .i64 c.cp, .int .i64 c.he, .int .i64 c.ke, .int .i64 c.ev, .int .i64 c.la] 23).alloc (.cells #[.int .u64 h, .slice A L.length capL] 43)) g1)
  have AZ : Hid (Blk w1 (w.heap.size + 1) #[.int .u64 h, .slice A L.length capL] 43) := hid (Blk.gr (Blk.new' (by simp)) g1)
  have G1 := hid (Gr.trans (((Gr.refl w).alloc _).alloc _) g1 : Gr w w1)
  have M1 := hid hm
  have hsz : ((w.alloc (.cells #[.int .i64 c.th, .int .i64 c.sl, .int .i64 c.cp, .int .i64 c.he, .int .i64 c.ke, .int .i64 c.ev, .int .i64 c.la] 23)).alloc (.cells #[.int .u64 h, .slice A L.length capL] 43)).heap.size = w.heap.size + 2 := by simp
  rw [hsz] at sm sp sq
  have SS := hid (⟨sm, sp, sq⟩ : _ ∧ _ ∧ _)
  have mlt : m < w1.heap.size := hm.mem.lt
  have plt : p < w1.heap.size := hm.bank.head.lt
  have qlt : q < w1.heap.size := hm.bank.row.lt
  have alt : w.heap.size < w1.heap.size := AX.out.lt
  clear g1 hm hwr sm sp sq sg hapart hglt hsz
  have x0 := (AX.out).cell (i := 0) rfl
  have x1 := (AX.out).cell (i := 1) rfl
  have x2 := (AX.out).cell (i := 2) rfl
  have x3 := (AX.out).cell (i := 3) rfl
  have x4 := (AX.out).cell (i := 4) rfl
  have x5 := (AX.out).cell (i := 5) rfl
  have x6 := (AX.out).cell (i := 6) rfl
  go_wp2_with fail
  refine (HL.out _ (HW.out.gr (G1.out.alloc _))).mono ?_
  rintro e w2 ⟨m2, p2, q2, g2, cap2, rfl, hm, hwr, gg, ⟨sm, sp, sq, sg⟩, hapart, hglt⟩
  clear x0 x1 x2 x3 x4 x5 x6
  have hsz : (w1.alloc (.cells #[.int .i64 c.th, .int .i64 c.sl, .int .i64 c.cp, .int .i64 c.he, .int .i64 c.ke, .int .i64 c.ev, .int .i64 c.la, .slice (some ⟨g, 0, none⟩) l.length cap, .int .i64 0, .int .i64 0, .int .i64 0, .int .u64 0, .int .u64 0, .int .u64 0, .bool false] 50)).heap.size = w1.heap.size + 1 := by simp
  rw [hsz] at sm sp sq
  have SS2 := hid (⟨sm, sp, sq⟩ : _ ∧ _ ∧ _)
  have mlt2 : m2 < w2.heap.size := hm.mem.lt
  have plt2 : p2 < w2.heap.size := hm.bank.head.lt
  have qlt2 : q2 < w2.heap.size := hm.bank.row.lt
  have w12 : w1.heap.size + 1 ≤ w2.heap.size := by have := gg.size; omega
  have BX := hid (((AX.out.alloc (.cells #[.int .i64 c.th, .int .i64 c.sl, .int .i64 c.cp, .int .i64 c.he, .int .i64 c.ke, .int .i64 c.ev, .int .i64 c.la, .slice (some ⟨g, 0, none⟩) l.length cap, .int .i64 0, .int .i64 0, .int .i64 0, .int .u64 0, .int .u64 0, .int .u64 0, .bool false] 50)).gr gg).alloc (.cells #[.int .i64 c.th, .int .i64 c.sl, .int .i64 c.cp, .int .i64 c.he, .int .i64 c.ke, .int .i64 c.ev, .int .i64 c.la, .slice (some ⟨g2, 0, none⟩) l.length cap2, .int .i64 0, .int .i64 0, .int .i64 0, .int .u64 0, .int .u64 0, .int .u64 0, .bool false] 50))
  have BZ := hid (((AZ.out.alloc (.cells #[.int .i64 c.th, .int .i64 c.sl, .int .i64 c.cp, .int .i64 c.he, .int .i64 c.ke, .int .i64 c.ev, .int .i64 c.la, .slice (some ⟨g, 0, none⟩) l.length cap, .int .i64 0, .int .i64 0, .int .i64 0, .int .u64 0, .int .u64 0, .int .u64 0, .bool false] 50)).gr gg).alloc (.cells #[.int .i64 c.th, .int .i64 c.sl, .int .i64 c.cp, .int .i64 c.he, .int .i64 c.ke, .int .i64 c.ev, .int .i64 c.la, .slice (some ⟨g2, 0, none⟩) l.length cap2, .int .i64 0, .int .i64 0, .int .i64 0, .int .u64 0, .int .u64 0, .int .u64 0, .bool false] 50))
  have G2 := hid ((Gr.trans (G1.out.alloc (.cells #[.int .i64 c.th, .int .i64 c.sl, .int .i64 c.cp, .int .i64 c.he, .int .i64 c.ke, .int .i64 c.ev, .int .i64 c.la, .slice (some ⟨g, 0, none⟩) l.length cap, .int .i64 0, .int .i64 0, .int .i64 0, .int .u64 0, .int .u64 0, .int .u64 0, .bool false] 50)) gg).alloc (.cells #[.int .i64 c.th, .int .i64 c.sl, .int .i64 c.cp, .int .i64 c.he, .int .i64 c.ke, .int .i64 c.ev, .int .i64 c.la, .slice (some ⟨g2, 0, none⟩) l.length cap2, .int .i64 0, .int .i64 0, .int .i64 0, .int .u64 0, .int .u64 0, .int .u64 0, .bool false] 50))
  have MA := hid (M1.out.gr ((Gr.trans ((Gr.refl w1).alloc (.cells #[.int .i64 c.th, .int .i64 c.sl, .int .i64 c.cp, .int .i64 c.he, .int .i64 c.ke, .int .i64 c.ev, .int .i64 c.la, .slice (some ⟨g, 0, none⟩) l.length cap, .int .i64 0, .int .i64 0, .int .i64 0, .int .u64 0, .int .u64 0, .int .u64 0, .bool false] 50)) gg).alloc (.cells #[.int .i64 c.th, .int .i64 c.sl, .int .i64 c.cp, .int .i64 c.he, .int .i64 c.ke, .int .i64 c.ev, .int .i64 c.la, .slice (some ⟨g2, 0, none⟩) l.length cap2, .int .i64 0, .int .i64 0, .int .i64 0, .int .u64 0, .int .u64 0, .int .u64 0, .bool false] 50)))
  have MB := hid (hm.gr ((Gr.refl w2).alloc (.cells #[.int .i64 c.th, .int .i64 c.sl, .int .i64 c.cp, .int .i64 c.he, .int .i64 c.ke, .int .i64 c.ev, .int .i64 c.la, .slice (some ⟨g2, 0, none⟩) l.length cap2, .int .i64 0, .int .i64 0, .int .i64 0, .int .u64 0, .int .u64 0, .int .u64 0, .bool false] 50)))
  have hsz2 : Hid ((w2.alloc (.cells #[.int .i64 c.th, .int .i64 c.sl, .int .i64 c.cp, .int .i64 c.he, .int .i64 c.ke, .int .i64 c.ev, .int .i64 c.la, .slice (some ⟨g2, 0, none⟩) l.length cap2, .int .i64 0, .int .i64 0, .int .i64 0, .int .u64 0, .int .u64 0, .int .u64 0, .bool false] 50)).heap.size = w2.heap.size + 1) := hid (by simp)
  clear gg AX AZ G1 M1 hm hwr sm sp sq sg hapart hglt hsz
  have AX := hid BX.out
  have AZ := hid BZ.out
  clear BX BZ
  go_wp2_with fail
  generalize (w2.alloc (.cells #[.int .i64 c.th, .int .i64 c.sl, .int .i64 c.cp, .int .i64 c.he, .int .i64 c.ke, .int .i64 c.ev, .int .i64 c.la, .slice (some ⟨g2, 0, none⟩) l.length cap2, .int .i64 0, .int .i64 0, .int .i64 0, .int .u64 0, .int .u64 0, .int .u64 0, .bool false] 50)) = W at *
  refine wp_region_anyC (n := 12) (Gr W) (by kernel_rfl) rfl ?_
  refine anyC_quiet (a1 := ?a1) (by kernel_rfl) 6 [0, 1, 3, 4, 6, 7] _ _ _ (by kernel_rfl) (by kernel_rfl) (Gr.refl W).drew ?_ ?_
  rotate_left
  · intro w' g'
    have hne : Nonempty (St (· = w')) := ⟨⟨w', rfl⟩⟩
    have X3 := AZ.out.gr g'
    have y0 : ∀ s : St (· = w'), s.val.cell? ⟨w.heap.size + 1, 0, none⟩ = some (.int .u64 h) := fun s => by rw [s.ok]; exact X3.cell rfl
    clear X3 g'
    conv => arg 5; simp only [picked, List.filterMap_cons, List.filterMap_nil, List.getElem?_toArray, List.getElem?_cons_zero, List.getElem?_cons_succ]
    show wpQuiet _ _ _ _ [_, _, _, _, _, _] _
    repeat (go_big_quiet_step (fail))
    refine wpQuiet_nil ?_
    rfl
  refine anyC_alone 2 (Gr.refl W).drew (by kernel_rfl) (by kernel_rfl) ?_
  conv => arg 4; simp only [picked, List.filterMap_cons, List.filterMap_nil, List.getElem?_toArray, List.getElem?_cons_zero, List.getElem?_cons_succ]
  show wpList _ _ _ [_] _ _
  go_wp2_with fail
  refine (hnew_any h _).mono ?_
  rintro e w6 ⟨rfl, rfl⟩
  go_wp2_with fail
  refine ⟨(Gr.refl W).drew.alloc _, ?_⟩
  refine anyC_alone 5 ((Gr.refl W).drew.alloc _) (by kernel_rfl) (by kernel_rfl) ?_
  conv => arg 4; simp only [picked, List.filterMap_cons, List.filterMap_nil, List.getElem?_toArray, List.getElem?_cons_zero, List.getElem?_cons_succ]
  show wpList _ _ _ [_] _ _
  go_wp2_with fail
  refine (hnew_any h _).mono ?_
  rintro e w6 ⟨rfl, rfl⟩
  go_wp2_with fail
  refine ⟨((Gr.refl W).drew.alloc _).alloc _, ?_⟩
  refine anyC_alone 8 (((Gr.refl W).drew.alloc _).alloc _) (by kernel_rfl) (by kernel_rfl) ?_
  conv => arg 4; simp only [picked, List.filterMap_cons, List.filterMap_nil, List.getElem?_toArray, List.getElem?_cons_zero, List.getElem?_cons_succ]
  show wpList _ _ _ [_] _ _
  go_wp2_with fail
  refine (hnew_any h _).mono ?_
  rintro e w6 ⟨rfl, rfl⟩
  have G6 : Hid (Gr W ((((W.alloc (.cells (helpRow (HS.new h)) 98)).alloc (.cells (helpRow (HS.new h)) 98)).alloc (.cells (helpRow (HS.new h)) 98)).drew)) := hid (((((Gr.refl W).alloc _).alloc _).alloc _).drew)
  have A1 : Hid (Blk ((((W.alloc (.cells (helpRow (HS.new h)) 98)).alloc (.cells (helpRow (HS.new h)) 98)).alloc (.cells (helpRow (HS.new h)) 98)).drew) W.heap.size (helpRow (HS.new h)) 98) := hid (Blk.drew (((Blk.new' rfl).alloc _).alloc _))
  have A2 : Hid (Blk ((((W.alloc (.cells (helpRow (HS.new h)) 98)).alloc (.cells (helpRow (HS.new h)) 98)).alloc (.cells (helpRow (HS.new h)) 98)).drew) (W.heap.size + 1) (helpRow (HS.new h)) 98) := hid (Blk.drew ((Blk.new' (by simp)).alloc _))
  have A3 : Hid (Blk ((((W.alloc (.cells (helpRow (HS.new h)) 98)).alloc (.cells (helpRow (HS.new h)) 98)).alloc (.cells (helpRow (HS.new h)) 98)).drew) (W.heap.size + 2) (helpRow (HS.new h)) 98) := hid (Blk.drew (Blk.new' (by simp)))
  go_wp2_with fail
  generalize ((((W.alloc (.cells (helpRow (HS.new h)) 98)).alloc (.cells (helpRow (HS.new h)) 98)).alloc (.cells (helpRow (HS.new h)) 98)).drew) = W6 at *
  refine ⟨G6.out, ?_⟩
  refine anyC_quiet (a1 := ?a2) (by kernel_rfl) 0 [9, 10, 11] _ _ _ (by kernel_rfl) (by kernel_rfl) G6.out ?_ ?_
  rotate_left
  · intro w' g'
    have hne : Nonempty (St (· = w')) := ⟨⟨w', rfl⟩⟩
    clear g'
    conv => arg 5; simp only [picked, List.filterMap_cons, List.filterMap_nil, List.getElem?_toArray, List.getElem?_cons_zero, List.getElem?_cons_succ]
    show wpQuiet _ _ _ _ [_, _, _] _
    repeat (go_big_quiet_step (fail))
    refine wpQuiet_nil ?_
    rfl
  refine ⟨by kernel_rfl, ?_⟩
  have CX := hid (AX.out.gr G6.out)
  have CZ := hid (AZ.out.gr G6.out)
  have hne : Nonempty (St (Gr W6)) := ⟨⟨W6, Gr.refl _⟩⟩
  have x0 : ∀ s : St (Gr W6), s.val.cell? ⟨w.heap.size, 0, none⟩ = some (.int .i64 c.th) := fun s => (Blk.gr CX.out s.ok).cell rfl
  have x1 : ∀ s : St (Gr W6), s.val.cell? ⟨w.heap.size, 1, none⟩ = some (.int .i64 c.sl) := fun s => (Blk.gr CX.out s.ok).cell rfl
  have x2 : ∀ s : St (Gr W6), s.val.cell? ⟨w.heap.size, 2, none⟩ = some (.int .i64 c.cp) := fun s => (Blk.gr CX.out s.ok).cell rfl
  have x3 : ∀ s : St (Gr W6), s.val.cell? ⟨w.heap.size, 3, none⟩ = some (.int .i64 c.he) := fun s => (Blk.gr CX.out s.ok).cell rfl
  have x4 : ∀ s : St (Gr W6), s.val.cell? ⟨w.heap.size, 4, none⟩ = some (.int .i64 c.ke) := fun s => (Blk.gr CX.out s.ok).cell rfl
  have x5 : ∀ s : St (Gr W6), s.val.cell? ⟨w.heap.size, 5, none⟩ = some (.int .i64 c.ev) := fun s => (Blk.gr CX.out s.ok).cell rfl
  have x6 : ∀ s : St (Gr W6), s.val.cell? ⟨w.heap.size, 6, none⟩ = some (.int .i64 c.la) := fun s => (Blk.gr CX.out s.ok).cell rfl
  have z0 : ∀ s : St (Gr W6), s.val.cell? ⟨w.heap.size + 1, 0, none⟩ = some (.int .u64 h) := fun s => (Blk.gr CZ.out s.ok).cell rfl
  have z1 : ∀ s : St (Gr W6), s.val.cell? ⟨w.heap.size + 1, 1, none⟩ = some (.slice A L.length capL) := fun s => (Blk.gr CZ.out s.ok).cell rfl
  go_wp2_with fail
  refine wp_region_inv (Gr W6) (by kernel_rfl) (by kernel_rfl) (Gr.refl W6).drew ?_
  repeat (go_big_quiet_step ((go_at_call 29; (with_reducible exact Calls.st_gr (HIX.out _)))))
  refine wpQuiet_nil ?_
  rintro W7 ⟨⟨_, g7⟩, rfl⟩
  clear x0 x1 x2 x3 x4 x5 x6 z0 z1 hne
  go_wp2_with fail
  refine (halive _).mono ?_
  rintro e W8 ⟨rfl, g8⟩
  go_wp2_with fail
  go_ret
  exact ⟨rfl, Gr.trans G2.out (Gr.trans G6.out (Gr.trans g7 g8))⟩

set_option maxRecDepth 100000 in
set_option maxHeartbeats 8000000 in
theorem two_far (c : Cf) (v : Value) (l : List Int) (h : Int) (hh : U64 h) (A : Option Addr) (L : List Bool) (capL : Nat) (w : World) (hw : Words w v l) (hL : ∀ i, i < L.length → ∃ a, A = some a ∧ w.cell? (a.add i) = some (.bool (L.getD i false))) (hth : There c l) (hlong : ¬ 200 < L.length) (hfar : c.cp < hI h) :
    Calls Try.prog 9 #[.agg #[.int .i64 c.th, .int .i64 c.sl, .int .i64 c.cp, .int .i64 c.he, .int .i64 c.ke, .int .i64 c.ev, .int .i64 c.la], v, .agg #[.int .u64 h, .slice A L.length capL]] w fun e w' => e = .returned (.bool true) ∧ Gr w w' := by
  have hd : decide (200 < (L.length : Int)) = false := by simp; omega
  have hd2 : decide (c.cp < hI h) = true := by simpa using hfar
  clear hL
  have hl := fun w hw => lof_yes c v l w hw hth
  unfold Cf.val MadeBoth refMem Acc.zero at hl
  have HL := hid hl
  have HW := hid hw
  have HIX := hid (index_any h hh)
  clear hl hw
  go_enter Try.func9, Try.ntmps9
  go_wp2_with fail
  refine (HL.out _ (HW.out.gr (((Gr.refl w).alloc _).alloc _))).mono ?_
  rintro e w1 ⟨m, p, q, g, cap, rfl, hm, hwr, g1, ⟨sm, sp, sq, sg⟩, hapart, hglt⟩
  have AX := hid (Blk.gr ((Blk.new w #[.int .i64 c.th, .int .i64 c.sl, .int .i64 c.cp, .int .i64 c.he, .int .i64 c.ke, .int .i64 c.ev, .int .i64 c.la] 23).alloc (.cells #[.int .u64 h, .slice A L.length capL] 43)) g1)
  have AZ : Hid (Blk w1 (w.heap.size + 1) #[.int .u64 h, .slice A L.length capL] 43) := hid (Blk.gr (Blk.new' (by simp)) g1)
  have G1 := hid (Gr.trans (((Gr.refl w).alloc _).alloc _) g1 : Gr w w1)
  have M1 := hid hm
  have hsz : ((w.alloc (.cells #[.int .i64 c.th, .int .i64 c.sl, .int .i64 c.cp, .int .i64 c.he, .int .i64 c.ke, .int .i64 c.ev, .int .i64 c.la] 23)).alloc (.cells #[.int .u64 h, .slice A L.length capL] 43)).heap.size = w.heap.size + 2 := by simp
  rw [hsz] at sm sp sq
  have SS := hid (⟨sm, sp, sq⟩ : _ ∧ _ ∧ _)
  have mlt : m < w1.heap.size := hm.mem.lt
  have plt : p < w1.heap.size := hm.bank.head.lt
  have qlt : q < w1.heap.size := hm.bank.row.lt
  have alt : w.heap.size < w1.heap.size := AX.out.lt
  clear g1 hm hwr sm sp sq sg hapart hglt hsz
  have x0 := (AX.out).cell (i := 0) rfl
  have x1 := (AX.out).cell (i := 1) rfl
  have x2 := (AX.out).cell (i := 2) rfl
  have x3 := (AX.out).cell (i := 3) rfl
  have x4 := (AX.out).cell (i := 4) rfl
  have x5 := (AX.out).cell (i := 5) rfl
  have x6 := (AX.out).cell (i := 6) rfl
  go_wp2_with fail
  refine (HL.out _ (HW.out.gr (G1.out.alloc _))).mono ?_
  rintro e w2 ⟨m2, p2, q2, g2, cap2, rfl, hm, hwr, gg, ⟨sm, sp, sq, sg⟩, hapart, hglt⟩
  clear x0 x1 x2 x3 x4 x5 x6
  have hsz : (w1.alloc (.cells #[.int .i64 c.th, .int .i64 c.sl, .int .i64 c.cp, .int .i64 c.he, .int .i64 c.ke, .int .i64 c.ev, .int .i64 c.la, .slice (some ⟨g, 0, none⟩) l.length cap, .int .i64 0, .int .i64 0, .int .i64 0, .int .u64 0, .int .u64 0, .int .u64 0, .bool false] 50)).heap.size = w1.heap.size + 1 := by simp
  rw [hsz] at sm sp sq
  have SS2 := hid (⟨sm, sp, sq⟩ : _ ∧ _ ∧ _)
  have mlt2 : m2 < w2.heap.size := hm.mem.lt
  have plt2 : p2 < w2.heap.size := hm.bank.head.lt
  have qlt2 : q2 < w2.heap.size := hm.bank.row.lt
  have w12 : w1.heap.size + 1 ≤ w2.heap.size := by have := gg.size; omega
  have BX := hid (((AX.out.alloc (.cells #[.int .i64 c.th, .int .i64 c.sl, .int .i64 c.cp, .int .i64 c.he, .int .i64 c.ke, .int .i64 c.ev, .int .i64 c.la, .slice (some ⟨g, 0, none⟩) l.length cap, .int .i64 0, .int .i64 0, .int .i64 0, .int .u64 0, .int .u64 0, .int .u64 0, .bool false] 50)).gr gg).alloc (.cells #[.int .i64 c.th, .int .i64 c.sl, .int .i64 c.cp, .int .i64 c.he, .int .i64 c.ke, .int .i64 c.ev, .int .i64 c.la, .slice (some ⟨g2, 0, none⟩) l.length cap2, .int .i64 0, .int .i64 0, .int .i64 0, .int .u64 0, .int .u64 0, .int .u64 0, .bool false] 50))
  have BZ := hid (((AZ.out.alloc (.cells #[.int .i64 c.th, .int .i64 c.sl, .int .i64 c.cp, .int .i64 c.he, .int .i64 c.ke, .int .i64 c.ev, .int .i64 c.la, .slice (some ⟨g, 0, none⟩) l.length cap, .int .i64 0, .int .i64 0, .int .i64 0, .int .u64 0, .int .u64 0, .int .u64 0, .bool false] 50)).gr gg).alloc (.cells #[.int .i64 c.th, .int .i64 c.sl, .int .i64 c.cp, .int .i64 c.he, .int .i64 c.ke, .int .i64 c.ev, .int .i64 c.la, .slice (some ⟨g2, 0, none⟩) l.length cap2, .int .i64 0, .int .i64 0, .int .i64 0, .int .u64 0, .int .u64 0, .int .u64 0, .bool false] 50))
  have G2 := hid ((Gr.trans (G1.out.alloc (.cells #[.int .i64 c.th, .int .i64 c.sl, .int .i64 c.cp, .int .i64 c.he, .int .i64 c.ke, .int .i64 c.ev, .int .i64 c.la, .slice (some ⟨g, 0, none⟩) l.length cap, .int .i64 0, .int .i64 0, .int .i64 0, .int .u64 0, .int .u64 0, .int .u64 0, .bool false] 50)) gg).alloc (.cells #[.int .i64 c.th, .int .i64 c.sl, .int .i64 c.cp, .int .i64 c.he, .int .i64 c.ke, .int .i64 c.ev, .int .i64 c.la, .slice (some ⟨g2, 0, none⟩) l.length cap2, .int .i64 0, .int .i64 0, .int .i64 0, .int .u64 0, .int .u64 0, .int .u64 0, .bool false] 50))
  have MA := hid (M1.out.gr ((Gr.trans ((Gr.refl w1).alloc (.cells #[.int .i64 c.th, .int .i64 c.sl, .int .i64 c.cp, .int .i64 c.he, .int .i64 c.ke, .int .i64 c.ev, .int .i64 c.la, .slice (some ⟨g, 0, none⟩) l.length cap, .int .i64 0, .int .i64 0, .int .i64 0, .int .u64 0, .int .u64 0, .int .u64 0, .bool false] 50)) gg).alloc (.cells #[.int .i64 c.th, .int .i64 c.sl, .int .i64 c.cp, .int .i64 c.he, .int .i64 c.ke, .int .i64 c.ev, .int .i64 c.la, .slice (some ⟨g2, 0, none⟩) l.length cap2, .int .i64 0, .int .i64 0, .int .i64 0, .int .u64 0, .int .u64 0, .int .u64 0, .bool false] 50)))
  have MB := hid (hm.gr ((Gr.refl w2).alloc (.cells #[.int .i64 c.th, .int .i64 c.sl, .int .i64 c.cp, .int .i64 c.he, .int .i64 c.ke, .int .i64 c.ev, .int .i64 c.la, .slice (some ⟨g2, 0, none⟩) l.length cap2, .int .i64 0, .int .i64 0, .int .i64 0, .int .u64 0, .int .u64 0, .int .u64 0, .bool false] 50)))
  have hsz2 : Hid ((w2.alloc (.cells #[.int .i64 c.th, .int .i64 c.sl, .int .i64 c.cp, .int .i64 c.he, .int .i64 c.ke, .int .i64 c.ev, .int .i64 c.la, .slice (some ⟨g2, 0, none⟩) l.length cap2, .int .i64 0, .int .i64 0, .int .i64 0, .int .u64 0, .int .u64 0, .int .u64 0, .bool false] 50)).heap.size = w2.heap.size + 1) := hid (by simp)
  clear gg AX AZ G1 M1 hm hwr sm sp sq sg hapart hglt hsz
  have AX := hid BX.out
  have AZ := hid BZ.out
  clear BX BZ
  go_wp2_with fail
  generalize (w2.alloc (.cells #[.int .i64 c.th, .int .i64 c.sl, .int .i64 c.cp, .int .i64 c.he, .int .i64 c.ke, .int .i64 c.ev, .int .i64 c.la, .slice (some ⟨g2, 0, none⟩) l.length cap2, .int .i64 0, .int .i64 0, .int .i64 0, .int .u64 0, .int .u64 0, .int .u64 0, .bool false] 50)) = W at *
  refine wp_region_anyC (n := 12) (Gr W) (by kernel_rfl) rfl ?_
  refine anyC_quiet (a1 := ?a1) (by kernel_rfl) 6 [0, 1, 3, 4, 6, 7] _ _ _ (by kernel_rfl) (by kernel_rfl) (Gr.refl W).drew ?_ ?_
  rotate_left
  · intro w' g'
    have hne : Nonempty (St (· = w')) := ⟨⟨w', rfl⟩⟩
    have X3 := AZ.out.gr g'
    have y0 : ∀ s : St (· = w'), s.val.cell? ⟨w.heap.size + 1, 0, none⟩ = some (.int .u64 h) := fun s => by rw [s.ok]; exact X3.cell rfl
    clear X3 g'
    conv => arg 5; simp only [picked, List.filterMap_cons, List.filterMap_nil, List.getElem?_toArray, List.getElem?_cons_zero, List.getElem?_cons_succ]
    show wpQuiet _ _ _ _ [_, _, _, _, _, _] _
    repeat (go_big_quiet_step (fail))
    refine wpQuiet_nil ?_
    rfl
  refine anyC_alone 2 (Gr.refl W).drew (by kernel_rfl) (by kernel_rfl) ?_
  conv => arg 4; simp only [picked, List.filterMap_cons, List.filterMap_nil, List.getElem?_toArray, List.getElem?_cons_zero, List.getElem?_cons_succ]
  show wpList _ _ _ [_] _ _
  go_wp2_with fail
  refine (hnew_any h _).mono ?_
  rintro e w6 ⟨rfl, rfl⟩
  go_wp2_with fail
  refine ⟨(Gr.refl W).drew.alloc _, ?_⟩
  refine anyC_alone 5 ((Gr.refl W).drew.alloc _) (by kernel_rfl) (by kernel_rfl) ?_
  conv => arg 4; simp only [picked, List.filterMap_cons, List.filterMap_nil, List.getElem?_toArray, List.getElem?_cons_zero, List.getElem?_cons_succ]
  show wpList _ _ _ [_] _ _
  go_wp2_with fail
  refine (hnew_any h _).mono ?_
  rintro e w6 ⟨rfl, rfl⟩
  go_wp2_with fail
  refine ⟨((Gr.refl W).drew.alloc _).alloc _, ?_⟩
  refine anyC_alone 8 (((Gr.refl W).drew.alloc _).alloc _) (by kernel_rfl) (by kernel_rfl) ?_
  conv => arg 4; simp only [picked, List.filterMap_cons, List.filterMap_nil, List.getElem?_toArray, List.getElem?_cons_zero, List.getElem?_cons_succ]
  show wpList _ _ _ [_] _ _
  go_wp2_with fail
  refine (hnew_any h _).mono ?_
  rintro e w6 ⟨rfl, rfl⟩
  have G6 : Hid (Gr W ((((W.alloc (.cells (helpRow (HS.new h)) 98)).alloc (.cells (helpRow (HS.new h)) 98)).alloc (.cells (helpRow (HS.new h)) 98)).drew)) := hid (((((Gr.refl W).alloc _).alloc _).alloc _).drew)
  have A1 : Hid (Blk ((((W.alloc (.cells (helpRow (HS.new h)) 98)).alloc (.cells (helpRow (HS.new h)) 98)).alloc (.cells (helpRow (HS.new h)) 98)).drew) W.heap.size (helpRow (HS.new h)) 98) := hid (Blk.drew (((Blk.new' rfl).alloc _).alloc _))
  have A2 : Hid (Blk ((((W.alloc (.cells (helpRow (HS.new h)) 98)).alloc (.cells (helpRow (HS.new h)) 98)).alloc (.cells (helpRow (HS.new h)) 98)).drew) (W.heap.size + 1) (helpRow (HS.new h)) 98) := hid (Blk.drew ((Blk.new' (by simp)).alloc _))
  have A3 : Hid (Blk ((((W.alloc (.cells (helpRow (HS.new h)) 98)).alloc (.cells (helpRow (HS.new h)) 98)).alloc (.cells (helpRow (HS.new h)) 98)).drew) (W.heap.size + 2) (helpRow (HS.new h)) 98) := hid (Blk.drew (Blk.new' (by simp)))
  go_wp2_with fail
  generalize ((((W.alloc (.cells (helpRow (HS.new h)) 98)).alloc (.cells (helpRow (HS.new h)) 98)).alloc (.cells (helpRow (HS.new h)) 98)).drew) = W6 at *
  refine ⟨G6.out, ?_⟩
  refine anyC_quiet (a1 := ?a2) (by kernel_rfl) 0 [9, 10, 11] _ _ _ (by kernel_rfl) (by kernel_rfl) G6.out ?_ ?_
  rotate_left
  · intro w' g'
    have hne : Nonempty (St (· = w')) := ⟨⟨w', rfl⟩⟩
    clear g'
    conv => arg 5; simp only [picked, List.filterMap_cons, List.filterMap_nil, List.getElem?_toArray, List.getElem?_cons_zero, List.getElem?_cons_succ]
    show wpQuiet _ _ _ _ [_, _, _] _
    repeat (go_big_quiet_step (fail))
    refine wpQuiet_nil ?_
    rfl
  refine ⟨by kernel_rfl, ?_⟩
  have CX := hid (AX.out.gr G6.out)
  have CZ := hid (AZ.out.gr G6.out)
  have hne : Nonempty (St (Gr W6)) := ⟨⟨W6, Gr.refl _⟩⟩
  have x0 : ∀ s : St (Gr W6), s.val.cell? ⟨w.heap.size, 0, none⟩ = some (.int .i64 c.th) := fun s => (Blk.gr CX.out s.ok).cell rfl
  have x1 : ∀ s : St (Gr W6), s.val.cell? ⟨w.heap.size, 1, none⟩ = some (.int .i64 c.sl) := fun s => (Blk.gr CX.out s.ok).cell rfl
  have x2 : ∀ s : St (Gr W6), s.val.cell? ⟨w.heap.size, 2, none⟩ = some (.int .i64 c.cp) := fun s => (Blk.gr CX.out s.ok).cell rfl
  have x3 : ∀ s : St (Gr W6), s.val.cell? ⟨w.heap.size, 3, none⟩ = some (.int .i64 c.he) := fun s => (Blk.gr CX.out s.ok).cell rfl
  have x4 : ∀ s : St (Gr W6), s.val.cell? ⟨w.heap.size, 4, none⟩ = some (.int .i64 c.ke) := fun s => (Blk.gr CX.out s.ok).cell rfl
  have x5 : ∀ s : St (Gr W6), s.val.cell? ⟨w.heap.size, 5, none⟩ = some (.int .i64 c.ev) := fun s => (Blk.gr CX.out s.ok).cell rfl
  have x6 : ∀ s : St (Gr W6), s.val.cell? ⟨w.heap.size, 6, none⟩ = some (.int .i64 c.la) := fun s => (Blk.gr CX.out s.ok).cell rfl
  have z0 : ∀ s : St (Gr W6), s.val.cell? ⟨w.heap.size + 1, 0, none⟩ = some (.int .u64 h) := fun s => (Blk.gr CZ.out s.ok).cell rfl
  have z1 : ∀ s : St (Gr W6), s.val.cell? ⟨w.heap.size + 1, 1, none⟩ = some (.slice A L.length capL) := fun s => (Blk.gr CZ.out s.ok).cell rfl
  go_wp2_with fail
  refine wp_region_inv (Gr W6) (by kernel_rfl) (by kernel_rfl) (Gr.refl W6).drew ?_
  repeat (go_big_quiet_step ((go_at_call 29; (with_reducible exact Calls.st_gr (HIX.out _)))))
  refine wpQuiet_nil ?_
  rintro W7 ⟨⟨_, g7⟩, rfl⟩
  clear x0 x1 x2 x3 x4 x5 x6 z0 z1 hne
  go_wp2_with fail
  refine (halive _).mono ?_
  rintro e W8 ⟨rfl, g8⟩
  go_wp2_with fail
  go_ret
  exact ⟨rfl, Gr.trans G2.out (Gr.trans G6.out (Gr.trans g7 g8))⟩

set_option maxRecDepth 100000 in
set_option maxHeartbeats 8000000 in
theorem two_main_some (c : Cf) (v : Value) (l : List Int) (h : Int) (hh : U64 h) (a0 : Addr) (L : List Bool) (capL : Nat) (w : World) (hw : Words w v l) (hL : ∀ i, i < L.length → w.cell? (a0.add i) = some (.bool (L.getD i false))) (hth : There c l) (hlong : ¬ 200 < L.length) (hi : hI h ≤ c.cp) (hu : ∀ x ∈ l, U64 x) :
    Calls Try.prog 9 #[.agg #[.int .i64 c.th, .int .i64 c.sl, .int .i64 c.cp, .int .i64 c.he, .int .i64 c.ke, .int .i64 c.ev, .int .i64 c.la], v, .agg #[.int .u64 h, .slice (some a0) L.length capL]] w fun e w' => e = .returned (.bool true) ∧ Gr w w' := by
  obtain ⟨T, C, R, hT⟩ := ctx_of hth hh hi hu
  have hd : decide (200 < (L.length : Int)) = false := by simp; omega
  have hd2 : decide (c.cp < hI h) = false := by simp; omega
  have CT := hid C
  have RR := hid R
  have HOK := hid C.ok
  have hl4 := hth.2.2
  have HLL := hid hL
  have W0 := hid (show (⟨l, 0, Acc.zero⟩ : Bk).Wd from hu)
  have F0 := hid (new_fit hh)
  have T0 := hid (Two2.new R hh)
  have HH := hid hh
  have PP := hid (fun Ha Hb B t c0 c1 => two_pure C R hh (Ha := Ha) (Hb := Hb) (B := B) t c0 c1)
  clear C R hT hu hL
  have hl := fun w hw => lof_yes c v l w hw hth
  unfold Cf.val MadeBoth refMem Acc.zero at hl
  have HL := hid hl
  have HW := hid hw
  have HIX := hid (index_any h hh)
  clear hl hw
  go_enter Try.func9, Try.ntmps9
  go_wp2_with fail
  refine (HL.out _ (HW.out.gr (((Gr.refl w).alloc _).alloc _))).mono ?_
  rintro e w1 ⟨m, p, q, g, cap, rfl, hm, hwr, g1, ⟨sm, sp, sq, sg⟩, hapart, hglt⟩
  have AX := hid (Blk.gr ((Blk.new w #[.int .i64 c.th, .int .i64 c.sl, .int .i64 c.cp, .int .i64 c.he, .int .i64 c.ke, .int .i64 c.ev, .int .i64 c.la] 23).alloc (.cells #[.int .u64 h, .slice (some a0) L.length capL] 43)) g1)
  have AZ : Hid (Blk w1 (w.heap.size + 1) #[.int .u64 h, .slice (some a0) L.length capL] 43) := hid (Blk.gr (Blk.new' (by simp)) g1)
  have G1 := hid (Gr.trans (((Gr.refl w).alloc _).alloc _) g1 : Gr w w1)
  have M1 := hid hm
  have hsz : ((w.alloc (.cells #[.int .i64 c.th, .int .i64 c.sl, .int .i64 c.cp, .int .i64 c.he, .int .i64 c.ke, .int .i64 c.ev, .int .i64 c.la] 23)).alloc (.cells #[.int .u64 h, .slice (some a0) L.length capL] 43)).heap.size = w.heap.size + 2 := by simp
  rw [hsz] at sm sp sq
  have SS := hid (⟨sm, sp, sq⟩ : _ ∧ _ ∧ _)
  have mlt : m < w1.heap.size := hm.mem.lt
  have plt : p < w1.heap.size := hm.bank.head.lt
  have qlt : q < w1.heap.size := hm.bank.row.lt
  have alt : w.heap.size < w1.heap.size := AX.out.lt
  clear g1 hm hwr sm sp sq sg hapart hglt hsz
  have x0 := (AX.out).cell (i := 0) rfl
  have x1 := (AX.out).cell (i := 1) rfl
  have x2 := (AX.out).cell (i := 2) rfl
  have x3 := (AX.out).cell (i := 3) rfl
  have x4 := (AX.out).cell (i := 4) rfl
  have x5 := (AX.out).cell (i := 5) rfl
  have x6 := (AX.out).cell (i := 6) rfl
  go_wp2_with fail
  refine (HL.out _ (HW.out.gr (G1.out.alloc _))).mono ?_
  rintro e w2 ⟨m2, p2, q2, g2, cap2, rfl, hm, hwr, gg, ⟨sm, sp, sq, sg⟩, hapart, hglt⟩
  clear x0 x1 x2 x3 x4 x5 x6
  have hsz : (w1.alloc (.cells #[.int .i64 c.th, .int .i64 c.sl, .int .i64 c.cp, .int .i64 c.he, .int .i64 c.ke, .int .i64 c.ev, .int .i64 c.la, .slice (some ⟨g, 0, none⟩) l.length cap, .int .i64 0, .int .i64 0, .int .i64 0, .int .u64 0, .int .u64 0, .int .u64 0, .bool false] 50)).heap.size = w1.heap.size + 1 := by simp
  rw [hsz] at sm sp sq
  have SS2 := hid (⟨sm, sp, sq⟩ : _ ∧ _ ∧ _)
  have mlt2 : m2 < w2.heap.size := hm.mem.lt
  have plt2 : p2 < w2.heap.size := hm.bank.head.lt
  have qlt2 : q2 < w2.heap.size := hm.bank.row.lt
  have w12 : w1.heap.size + 1 ≤ w2.heap.size := by have := gg.size; omega
  have BX := hid (((AX.out.alloc (.cells #[.int .i64 c.th, .int .i64 c.sl, .int .i64 c.cp, .int .i64 c.he, .int .i64 c.ke, .int .i64 c.ev, .int .i64 c.la, .slice (some ⟨g, 0, none⟩) l.length cap, .int .i64 0, .int .i64 0, .int .i64 0, .int .u64 0, .int .u64 0, .int .u64 0, .bool false] 50)).gr gg).alloc (.cells #[.int .i64 c.th, .int .i64 c.sl, .int .i64 c.cp, .int .i64 c.he, .int .i64 c.ke, .int .i64 c.ev, .int .i64 c.la, .slice (some ⟨g2, 0, none⟩) l.length cap2, .int .i64 0, .int .i64 0, .int .i64 0, .int .u64 0, .int .u64 0, .int .u64 0, .bool false] 50))
  have BZ := hid (((AZ.out.alloc (.cells #[.int .i64 c.th, .int .i64 c.sl, .int .i64 c.cp, .int .i64 c.he, .int .i64 c.ke, .int .i64 c.ev, .int .i64 c.la, .slice (some ⟨g, 0, none⟩) l.length cap, .int .i64 0, .int .i64 0, .int .i64 0, .int .u64 0, .int .u64 0, .int .u64 0, .bool false] 50)).gr gg).alloc (.cells #[.int .i64 c.th, .int .i64 c.sl, .int .i64 c.cp, .int .i64 c.he, .int .i64 c.ke, .int .i64 c.ev, .int .i64 c.la, .slice (some ⟨g2, 0, none⟩) l.length cap2, .int .i64 0, .int .i64 0, .int .i64 0, .int .u64 0, .int .u64 0, .int .u64 0, .bool false] 50))
  have G2 := hid ((Gr.trans (G1.out.alloc (.cells #[.int .i64 c.th, .int .i64 c.sl, .int .i64 c.cp, .int .i64 c.he, .int .i64 c.ke, .int .i64 c.ev, .int .i64 c.la, .slice (some ⟨g, 0, none⟩) l.length cap, .int .i64 0, .int .i64 0, .int .i64 0, .int .u64 0, .int .u64 0, .int .u64 0, .bool false] 50)) gg).alloc (.cells #[.int .i64 c.th, .int .i64 c.sl, .int .i64 c.cp, .int .i64 c.he, .int .i64 c.ke, .int .i64 c.ev, .int .i64 c.la, .slice (some ⟨g2, 0, none⟩) l.length cap2, .int .i64 0, .int .i64 0, .int .i64 0, .int .u64 0, .int .u64 0, .int .u64 0, .bool false] 50))
  have MA := hid (M1.out.gr ((Gr.trans ((Gr.refl w1).alloc (.cells #[.int .i64 c.th, .int .i64 c.sl, .int .i64 c.cp, .int .i64 c.he, .int .i64 c.ke, .int .i64 c.ev, .int .i64 c.la, .slice (some ⟨g, 0, none⟩) l.length cap, .int .i64 0, .int .i64 0, .int .i64 0, .int .u64 0, .int .u64 0, .int .u64 0, .bool false] 50)) gg).alloc (.cells #[.int .i64 c.th, .int .i64 c.sl, .int .i64 c.cp, .int .i64 c.he, .int .i64 c.ke, .int .i64 c.ev, .int .i64 c.la, .slice (some ⟨g2, 0, none⟩) l.length cap2, .int .i64 0, .int .i64 0, .int .i64 0, .int .u64 0, .int .u64 0, .int .u64 0, .bool false] 50)))
  have MB := hid (hm.gr ((Gr.refl w2).alloc (.cells #[.int .i64 c.th, .int .i64 c.sl, .int .i64 c.cp, .int .i64 c.he, .int .i64 c.ke, .int .i64 c.ev, .int .i64 c.la, .slice (some ⟨g2, 0, none⟩) l.length cap2, .int .i64 0, .int .i64 0, .int .i64 0, .int .u64 0, .int .u64 0, .int .u64 0, .bool false] 50)))
  have hsz2 : Hid ((w2.alloc (.cells #[.int .i64 c.th, .int .i64 c.sl, .int .i64 c.cp, .int .i64 c.he, .int .i64 c.ke, .int .i64 c.ev, .int .i64 c.la, .slice (some ⟨g2, 0, none⟩) l.length cap2, .int .i64 0, .int .i64 0, .int .i64 0, .int .u64 0, .int .u64 0, .int .u64 0, .bool false] 50)).heap.size = w2.heap.size + 1) := hid (by simp)
  clear gg AX AZ G1 M1 hm hwr sm sp sq sg hapart hglt hsz
  have AX := hid BX.out
  have AZ := hid BZ.out
  clear BX BZ
  go_wp2_with fail
  generalize (w2.alloc (.cells #[.int .i64 c.th, .int .i64 c.sl, .int .i64 c.cp, .int .i64 c.he, .int .i64 c.ke, .int .i64 c.ev, .int .i64 c.la, .slice (some ⟨g2, 0, none⟩) l.length cap2, .int .i64 0, .int .i64 0, .int .i64 0, .int .u64 0, .int .u64 0, .int .u64 0, .bool false] 50)) = W at *
  refine wp_region_anyC (n := 12) (Gr W) (by kernel_rfl) rfl ?_
  refine anyC_quiet (a1 := ?a1) (by kernel_rfl) 6 [0, 1, 3, 4, 6, 7] _ _ _ (by kernel_rfl) (by kernel_rfl) (Gr.refl W).drew ?_ ?_
  rotate_left
  · intro w' g'
    have hne : Nonempty (St (· = w')) := ⟨⟨w', rfl⟩⟩
    have X3 := AZ.out.gr g'
    have y0 : ∀ s : St (· = w'), s.val.cell? ⟨w.heap.size + 1, 0, none⟩ = some (.int .u64 h) := fun s => by rw [s.ok]; exact X3.cell rfl
    clear X3 g'
    conv => arg 5; simp only [picked, List.filterMap_cons, List.filterMap_nil, List.getElem?_toArray, List.getElem?_cons_zero, List.getElem?_cons_succ]
    show wpQuiet _ _ _ _ [_, _, _, _, _, _] _
    repeat (go_big_quiet_step (fail))
    refine wpQuiet_nil ?_
    rfl
  refine anyC_alone 2 (Gr.refl W).drew (by kernel_rfl) (by kernel_rfl) ?_
  conv => arg 4; simp only [picked, List.filterMap_cons, List.filterMap_nil, List.getElem?_toArray, List.getElem?_cons_zero, List.getElem?_cons_succ]
  show wpList _ _ _ [_] _ _
  go_wp2_with fail
  refine (hnew_any h _).mono ?_
  rintro e w6 ⟨rfl, rfl⟩
  go_wp2_with fail
  refine ⟨(Gr.refl W).drew.alloc _, ?_⟩
  refine anyC_alone 5 ((Gr.refl W).drew.alloc _) (by kernel_rfl) (by kernel_rfl) ?_
  conv => arg 4; simp only [picked, List.filterMap_cons, List.filterMap_nil, List.getElem?_toArray, List.getElem?_cons_zero, List.getElem?_cons_succ]
  show wpList _ _ _ [_] _ _
  go_wp2_with fail
  refine (hnew_any h _).mono ?_
  rintro e w6 ⟨rfl, rfl⟩
  go_wp2_with fail
  refine ⟨((Gr.refl W).drew.alloc _).alloc _, ?_⟩
  refine anyC_alone 8 (((Gr.refl W).drew.alloc _).alloc _) (by kernel_rfl) (by kernel_rfl) ?_
  conv => arg 4; simp only [picked, List.filterMap_cons, List.filterMap_nil, List.getElem?_toArray, List.getElem?_cons_zero, List.getElem?_cons_succ]
  show wpList _ _ _ [_] _ _
  go_wp2_with fail
  refine (hnew_any h _).mono ?_
  rintro e w6 ⟨rfl, rfl⟩
  have G6 : Hid (Gr W ((((W.alloc (.cells (helpRow (HS.new h)) 98)).alloc (.cells (helpRow (HS.new h)) 98)).alloc (.cells (helpRow (HS.new h)) 98)).drew)) := hid (((((Gr.refl W).alloc _).alloc _).alloc _).drew)
  have A1 : Hid (Blk ((((W.alloc (.cells (helpRow (HS.new h)) 98)).alloc (.cells (helpRow (HS.new h)) 98)).alloc (.cells (helpRow (HS.new h)) 98)).drew) W.heap.size (helpRow (HS.new h)) 98) := hid (Blk.drew (((Blk.new' rfl).alloc _).alloc _))
  have A2 : Hid (Blk ((((W.alloc (.cells (helpRow (HS.new h)) 98)).alloc (.cells (helpRow (HS.new h)) 98)).alloc (.cells (helpRow (HS.new h)) 98)).drew) (W.heap.size + 1) (helpRow (HS.new h)) 98) := hid (Blk.drew ((Blk.new' (by simp)).alloc _))
  have A3 : Hid (Blk ((((W.alloc (.cells (helpRow (HS.new h)) 98)).alloc (.cells (helpRow (HS.new h)) 98)).alloc (.cells (helpRow (HS.new h)) 98)).drew) (W.heap.size + 2) (helpRow (HS.new h)) 98) := hid (Blk.drew (Blk.new' (by simp)))
  go_wp2_with fail
  generalize ((((W.alloc (.cells (helpRow (HS.new h)) 98)).alloc (.cells (helpRow (HS.new h)) 98)).alloc (.cells (helpRow (HS.new h)) 98)).drew) = W6 at *
  refine ⟨G6.out, ?_⟩
  refine anyC_quiet (a1 := ?a2) (by kernel_rfl) 0 [9, 10, 11] _ _ _ (by kernel_rfl) (by kernel_rfl) G6.out ?_ ?_
  rotate_left
  · intro w' g'
    have hne : Nonempty (St (· = w')) := ⟨⟨w', rfl⟩⟩
    clear g'
    conv => arg 5; simp only [picked, List.filterMap_cons, List.filterMap_nil, List.getElem?_toArray, List.getElem?_cons_zero, List.getElem?_cons_succ]
    show wpQuiet _ _ _ _ [_, _, _] _
    repeat (go_big_quiet_step (fail))
    refine wpQuiet_nil ?_
    rfl
  refine ⟨by kernel_rfl, ?_⟩
  have CX := hid (AX.out.gr G6.out)
  have CZ := hid (AZ.out.gr G6.out)
  have hne : Nonempty (St (Gr W6)) := ⟨⟨W6, Gr.refl _⟩⟩
  have x0 : ∀ s : St (Gr W6), s.val.cell? ⟨w.heap.size, 0, none⟩ = some (.int .i64 c.th) := fun s => (Blk.gr CX.out s.ok).cell rfl
  have x1 : ∀ s : St (Gr W6), s.val.cell? ⟨w.heap.size, 1, none⟩ = some (.int .i64 c.sl) := fun s => (Blk.gr CX.out s.ok).cell rfl
  have x2 : ∀ s : St (Gr W6), s.val.cell? ⟨w.heap.size, 2, none⟩ = some (.int .i64 c.cp) := fun s => (Blk.gr CX.out s.ok).cell rfl
  have x3 : ∀ s : St (Gr W6), s.val.cell? ⟨w.heap.size, 3, none⟩ = some (.int .i64 c.he) := fun s => (Blk.gr CX.out s.ok).cell rfl
  have x4 : ∀ s : St (Gr W6), s.val.cell? ⟨w.heap.size, 4, none⟩ = some (.int .i64 c.ke) := fun s => (Blk.gr CX.out s.ok).cell rfl
  have x5 : ∀ s : St (Gr W6), s.val.cell? ⟨w.heap.size, 5, none⟩ = some (.int .i64 c.ev) := fun s => (Blk.gr CX.out s.ok).cell rfl
  have x6 : ∀ s : St (Gr W6), s.val.cell? ⟨w.heap.size, 6, none⟩ = some (.int .i64 c.la) := fun s => (Blk.gr CX.out s.ok).cell rfl
  have z0 : ∀ s : St (Gr W6), s.val.cell? ⟨w.heap.size + 1, 0, none⟩ = some (.int .u64 h) := fun s => (Blk.gr CZ.out s.ok).cell rfl
  have z1 : ∀ s : St (Gr W6), s.val.cell? ⟨w.heap.size + 1, 1, none⟩ = some (.slice (some a0) L.length capL) := fun s => (Blk.gr CZ.out s.ok).cell rfl
  go_wp2_with fail
  refine wp_region_inv (Gr W6) (by kernel_rfl) (by kernel_rfl) (Gr.refl W6).drew ?_
  repeat (go_big_quiet_step ((go_at_call 29; (with_reducible exact Calls.st_gr (HIX.out _)))))
  refine wpQuiet_nil ?_
  rintro W7 ⟨⟨_, g7⟩, rfl⟩
  clear x0 x1 x2 x3 x4 x5 x6 z0 z1 hne
  have G7 := hid (Gr.trans G2.out (Gr.trans G6.out g7))
  have MA7 := hid (MA.out.gr (Gr.trans G6.out g7))
  have MB7 := hid (MB.out.gr (Gr.trans G6.out g7))
  have D1 := hid (Blk.gr A1.out g7)
  have D2 := hid (Blk.gr A2.out g7)
  have D3 := hid (Blk.gr A3.out g7)
  have EZ := hid (CZ.out.gr g7)
  have zz0 := G2.out.size
  have zz1 := hsz2.out
  have w1s := SS.out
  have w2s := SS2.out
  have n1 : W.heap.size ≠ m ∧ W.heap.size ≠ p ∧ W.heap.size ≠ q := ⟨by omega, by omega, by omega⟩
  have n2 : W.heap.size + 1 ≠ m ∧ W.heap.size + 1 ≠ p ∧ W.heap.size + 1 ≠ q := ⟨by omega, by omega, by omega⟩
  have n3 : W.heap.size + 2 ≠ m2 ∧ W.heap.size + 2 ≠ p2 ∧ W.heap.size + 2 ≠ q2 := ⟨by omega, by omega, by omega⟩
  have t1 : ∀ k, Tri W.heap.size p q k → w.heap.size ≤ k ∧ k ≠ W.heap.size + 1 ∧ k ≠ W.heap.size + 2 ∧ k ≠ m2 ∧ k ≠ p2 ∧ k ≠ q2 := by
    intro k hk
    unfold Tri at hk
    rcases hk with hk | hk | hk <;> (refine ⟨?_, ?_, ?_, ?_, ?_, ?_⟩ <;> omega)
  have t2 : ∀ k, Tri (W.heap.size + 1) p q k → w.heap.size ≤ k ∧ k ≠ W.heap.size ∧ k ≠ W.heap.size + 2 ∧ k ≠ m2 ∧ k ≠ p2 ∧ k ≠ q2 := by
    intro k hk
    unfold Tri at hk
    rcases hk with hk | hk | hk <;> (refine ⟨?_, ?_, ?_, ?_, ?_, ?_⟩ <;> omega)
  have t3 : ∀ k, Tri (W.heap.size + 2) p2 q2 k → w.heap.size ≤ k ∧ k ≠ W.heap.size ∧ k ≠ W.heap.size + 1 ∧ k ≠ m ∧ k ≠ p ∧ k ≠ q := by
    intro k hk
    unfold Tri at hk
    rcases hk with hk | hk | hk <;> (refine ⟨?_, ?_, ?_, ?_, ?_, ?_⟩ <;> omega)
  have N1 := hid n1
  have N2 := hid n2
  have N3 := hid n3
  have T1 := hid t1
  have T2 := hid t2
  have T3 := hid t3
  have z0 := EZ.out.cell (i := 0) rfl
  have z1 := EZ.out.cell (i := 1) rfl
  clear n1 n2 n3 t1 t2 t3 w1s w2s g7 A1 A2 A3 MA MB CX CZ AX AZ G6 G2 mlt plt qlt mlt2 plt2 qlt2 w12 hsz2 zz0 zz1 alt
  generalize W.heap.size = ah at *
  go_wp2_with fail
  clear z0 z1
  go_loopw [87] (fun i wr => ∃ (k : Nat) (Ha Hb : HS) (B : Bk), k ≤ L.length ∧ i = .int .i64 (k : Int) ∧ IsHelp wr ah Ha ∧ IsHelp wr (ah + 1) Hb ∧ IsHelp wr (ah + 2) (HS.new h) ∧ IsMem wr m p q c B ∧ IsMem wr m2 p2 q2 c ⟨l, 0, Acc.zero⟩ ∧ Gr w wr ∧ Two2 c h T l Ha Hb B ∧ 0 ≤ B.count ∧ B.count ≤ k) (fun i _ => L.length - (intOf i).toNat)
  case atStart => exact ⟨0, HS.new h, HS.new h, ⟨l, 0, Acc.zero⟩, Nat.zero_le _, rfl, D1.out, D2.out, D3.out, MA7.out, MB7.out, G7.out, T0.out, by show (0 : Int) ≤ 0; omega, by show (0 : Int) ≤ _; omega⟩
  case round =>
    obtain ⟨k, Ha, Hb, B, hk, rfl, ha, hb, hd3, hma, hmb, hg, ht, hc0, hc1⟩ := hrel
    have ha := hid ha
    have hb := hid hb
    have hd3 := hid hd3
    have hma := hid hma
    have hmb := hid hmb
    have hg := hid hg
    have ht := hid ht
    have hc0 := hid hc0
    have hc1 := hid hc1
    by_cases hlt : k < L.length
    · have hlt' : (k : Int) < L.length := by omega
      have hk0 : 0 ≤ (k : Int) := by omega
      have xc := Gr.cell hg.out (HLL.out k hlt)
      generalize L.getD k false = tk at *
      cases tk
      · have hs := hid (hstep_any (ah + 1) m p q c HOK.out Hb B _ hb.out hma.out N2.out.1 N2.out.2.1 N2.out.2.2 ht.out.fb ht.out.row.wd)
        have tn := hid ((ht.out.swap.step CT.out RR.out).swap)
        have cn := hid (step_count_le (c := c) (H := Hb) (B := B) (N := k) hc0.out hc1.out (by omega))
        go_wp2_with fail
        refine hs.out.mono ?_
        rintro e w9 ⟨rfl, u1, u2, u3⟩
        have u1 := hid u1
        have u2 := hid u2
        have v1 := hid (Blk.chg ha.out u3 (fun hk => (T2.out _ hk).2.1 rfl))
        have v3 := hid (Blk.chg hd3.out u3 (fun hk => (T2.out _ hk).2.2.1 rfl))
        have v4 := hid (hmb.out.chg u3 (fun hk => (T2.out _ hk).2.2.2.1 rfl) (fun hk => (T2.out _ hk).2.2.2.2.1 rfl) (fun hk => (T2.out _ hk).2.2.2.2.2 rfl))
        have v5 := hid (Gr.step hg.out u3 (fun k hk => (T2.out k hk).1))
        clear u3 xc
        go_wp2_with fail
        go_roundw
        case rel => exact ⟨k + 1, Ha, _, _, by omega, by go_num, v1.out, u1.out, v3.out, u2.out, v4.out, v5.out, tn.out, cn.out.1, by have := cn.out.2; omega⟩
        case measure => simp [intOf]; omega
      · have hs := hid (hstep_any ah m p q c HOK.out Ha B _ ha.out hma.out N1.out.1 N1.out.2.1 N1.out.2.2 ht.out.fa ht.out.row.wd)
        have tn := hid (ht.out.step CT.out RR.out)
        have cn := hid (step_count_le (c := c) (H := Ha) (B := B) (N := k) hc0.out hc1.out (by omega))
        go_wp2_with fail
        refine hs.out.mono ?_
        rintro e w9 ⟨rfl, u1, u2, u3⟩
        have u1 := hid u1
        have u2 := hid u2
        have v1 := hid (Blk.chg hb.out u3 (fun hk => (T1.out _ hk).2.1 rfl))
        have v3 := hid (Blk.chg hd3.out u3 (fun hk => (T1.out _ hk).2.2.1 rfl))
        have v4 := hid (hmb.out.chg u3 (fun hk => (T1.out _ hk).2.2.2.1 rfl) (fun hk => (T1.out _ hk).2.2.2.2.1 rfl) (fun hk => (T1.out _ hk).2.2.2.2.2 rfl))
        have v5 := hid (Gr.step hg.out u3 (fun k hk => (T1.out k hk).1))
        clear u3 xc
        go_wp2_with fail
        go_roundw
        case rel => exact ⟨k + 1, _, Hb, _, by omega, by go_num, u1.out, v1.out, v3.out, u2.out, v4.out, v5.out, tn.out, cn.out.1, by have := cn.out.2; omega⟩
        case measure => simp [intOf]; omega
    · have hge : ¬ (k : Int) < L.length := by omega
      obtain ⟨p1, p2', p3, p4, p5, p6⟩ := PP.out Ha Hb B ht.out hc0.out (by have := hc1.out; omega)
      have P1 := hid p1
      have P2 := hid p2'
      have P3 := hid p3
      have P4 := hid p4
      have P5 := hid p5
      have E1 := hid (fun w x y => ends_any ah m p q c HOK.out Ha B w 100 (by omega) x y N1.out.1 N1.out.2.1 N1.out.2.2 ht.out.fa ht.out.row.wd)
      have E2 := hid (fun w x y => ends_any (ah + 1) m p q c HOK.out Hb (endsf c 100 Ha B).2.2 w 100 (by omega) x y N2.out.1 N2.out.2.1 N2.out.2.2 ht.out.fb p6)
      have E3 := hid (fun w x y => ends_any (ah + 2) m2 p2 q2 c HOK.out (HS.new h) ⟨l, 0, Acc.zero⟩ w 100 (by omega) x y N3.out.1 N3.out.2.1 N3.out.2.2 F0.out W0.out)
      clear p1 p2' p3 p4 p5 p6
      go_wp2_with fail
      refine (E1.out _ ha.out hma.out).mono ?_
      rintro e u1 ⟨rfl, i1, i2, i3⟩
      have i1 := hid i1
      have i2 := hid i2
      have j1 := hid (Blk.chg hb.out i3 (fun hk => (T1.out _ hk).2.1 rfl))
      have j3 := hid (Blk.chg hd3.out i3 (fun hk => (T1.out _ hk).2.2.1 rfl))
      have j4 := hid (hmb.out.chg i3 (fun hk => (T1.out _ hk).2.2.2.1 rfl) (fun hk => (T1.out _ hk).2.2.2.2.1 rfl) (fun hk => (T1.out _ hk).2.2.2.2.2 rfl))
      have j5 := hid (Gr.step hg.out i3 (fun k hk => (T1.out k hk).1))
      clear i3
      go_wp2_with fail
      refine (E2.out _ j1.out i2.out).mono ?_
      rintro e u2 ⟨rfl, k1, k2, k3⟩
      have k1 := hid k1
      have k2 := hid k2
      have l1 := hid (Blk.chg i1.out k3 (fun hk => (T2.out _ hk).2.1 rfl))
      have l3 := hid (Blk.chg j3.out k3 (fun hk => (T2.out _ hk).2.2.1 rfl))
      have l4 := hid (j4.out.chg k3 (fun hk => (T2.out _ hk).2.2.2.1 rfl) (fun hk => (T2.out _ hk).2.2.2.2.1 rfl) (fun hk => (T2.out _ hk).2.2.2.2.2 rfl))
      have l5 := hid (Gr.step j5.out k3 (fun k hk => (T2.out k hk).1))
      clear k3
      go_wp2_with fail
      refine (E3.out _ l3.out l4.out).mono ?_
      rintro e u3 ⟨rfl, o1, o2, o3⟩
      have o1 := hid o1
      have o2 := hid o2
      have q1 := hid (Blk.chg l1.out o3 (fun hk => (T3.out _ hk).2.1 rfl))
      have q2' := hid (Blk.chg k1.out o3 (fun hk => (T3.out _ hk).2.2.1 rfl))
      have q4 := hid (k2.out.chg o3 (fun hk => (T3.out _ hk).2.2.2.1 rfl) (fun hk => (T3.out _ hk).2.2.2.2.1 rfl) (fun hk => (T3.out _ hk).2.2.2.2.2 rfl))
      have q5 := hid (Gr.step l5.out o3 (fun k hk => (T3.out k hk).1))
      clear o3
      have hbk := hid (mbank_any m2 p2 q2 c _ u3 o2.out)
      have hcl := hid (fun w hb => cells_any p2 q2 (endsf c 100 (HS.new h) ⟨l, 0, Acc.zero⟩).2.2 w hb (by rw [P5.out]; omega))
      have hbm := hid (fun w hm => mbank_any m p q c (endsf c 100 Hb (endsf c 100 Ha B).2.2).2.2 w hm)
      have hcm' := fun w hb => cells_any p q (endsf c 100 Hb (endsf c 100 Ha B).2.2).2.2 w hb (by rw [P4.out, P5.out]; omega)
      rw [P4.out] at hcm'
      have hcm := hid hcm'
      have hcsl : (endsf c 100 (HS.new h) ⟨l, 0, Acc.zero⟩).2.2.cells.length ≤ 400 := by rw [P5.out]; omega
      clear hcm' P4 P5 E1 E2 E3 PP
      generalize (endsf c 100 (HS.new h) ⟨l, 0, Acc.zero⟩) = Ro at *
      generalize (endsf c 100 Hb (endsf c 100 Ha B).2.2) = Rb at *
      generalize (endsf c 100 Ha B) = Ra at *
      generalize Ro.2.2.cells = cs at *
      go_wp2_with fail
      refine hbk.out.mono ?_
      rintro e u4 ⟨rfl, rfl⟩
      go_wp2_with fail
      refine (hcl.out _ o2.out.bank).mono ?_
      rintro e u5 ⟨rfl, hq5, g5⟩
      have Q5 := hid hq5
      have r1 := hid (Blk.gr q1.out g5)
      have r2 := hid (Blk.gr q2'.out g5)
      have r3 := hid (Blk.gr o1.out g5)
      have r4 := hid (q4.out.gr g5)
      have r5 := hid (Gr.trans q5.out g5)
      clear hq5 g5
      go_wp2_with fail
      go_loopw [112] (fun i wr => ∃ k : Nat, k ≤ cs.length ∧ i = .int .i64 (k : Int) ∧ Gr u5 wr) (fun i _ => cs.length - (intOf i).toNat)
      case atStart => exact ⟨0, Nat.zero_le _, rfl, Gr.refl _⟩
      case round =>
        obtain ⟨k', hk', rfl, gr0⟩ := hrel
        have GR := hid gr0
        clear gr0
        by_cases hlt2 : k' < cs.length
        · have hlt' : (k' : Int) < cs.length := by omega
          have hk0 : 0 ≤ (k' : Int) := by omega
          have hrow : (wordsRow cs)[k']? = some (.int .u64 cs[k']) := by simp [wordsRow_get, List.getD, hlt2]
          have HR := hid hrow
          clear hrow
          generalize cs[k'] = xx at *
          have y1 := (Blk.gr Q5.out GR.out).cell HR.out
          go_wp2_with fail
          refine (hbm.out _ (r4.out.gr GR.out)).mono ?_
          rintro e u6 ⟨rfl, rfl⟩
          go_wp2_with fail
          refine (hcm.out _ (r4.out.gr GR.out).bank).mono ?_
          rintro e u7 ⟨rfl, hq7, g7⟩
          have y2 := hq7.cell HR.out
          have GR7 := hid (Gr.trans GR.out g7)
          clear hq7 g7 y1
          go_wp2_with fail
          go_roundw
          case rel => exact ⟨k' + 1, by omega, by go_num, GR7.out⟩
          case measure => simp [intOf]; omega
        · have hge2 : ¬ (k' : Int) < cs.length := by omega
          go_wp2_with fail
          refine (halive _).mono ?_
          rintro e u8 ⟨rfl, g8⟩
          have GR8 := hid (Gr.trans GR.out g8)
          have d1 := hid (hdone_yes ah Ra.2.1 u8 (Blk.gr r1.out GR8.out) P1.out)
          have d2 := hid (hdone_yes (ah + 1) Rb.2.1 u8 (Blk.gr r2.out GR8.out) P2.out)
          have d3 := hid (hdone_yes (ah + 2) Ro.2.1 u8 (Blk.gr r3.out GR8.out) P3.out)
          clear g8
          go_wp2_with fail
          refine d1.out.mono ?_
          rintro e u9 ⟨rfl, rfl⟩
          go_wp2_with fail
          refine d2.out.mono ?_
          rintro e u9 ⟨rfl, rfl⟩
          go_wp2_with fail
          refine d3.out.mono ?_
          rintro e u9 ⟨rfl, rfl⟩
          go_wp2_with fail
          go_ret
          exact ⟨rfl, Gr.trans r5.out GR8.out⟩

set_option maxRecDepth 100000 in
set_option maxHeartbeats 8000000 in
theorem two_main_none (c : Cf) (v : Value) (l : List Int) (h : Int) (hh : U64 h) (L : List Bool) (capL : Nat) (w : World) (hw : Words w v l) (hL : L.length = 0) (hth : There c l) (hlong : ¬ 200 < L.length) (hi : hI h ≤ c.cp) (hu : ∀ x ∈ l, U64 x) :
    Calls Try.prog 9 #[.agg #[.int .i64 c.th, .int .i64 c.sl, .int .i64 c.cp, .int .i64 c.he, .int .i64 c.ke, .int .i64 c.ev, .int .i64 c.la], v, .agg #[.int .u64 h, .slice none L.length capL]] w fun e w' => e = .returned (.bool true) ∧ Gr w w' := by
  obtain ⟨T, C, R, hT⟩ := ctx_of hth hh hi hu
  have hd : decide (200 < (L.length : Int)) = false := by simp; omega
  have hd2 : decide (c.cp < hI h) = false := by simp; omega
  have CT := hid C
  have RR := hid R
  have HOK := hid C.ok
  have hl4 := hth.2.2
  have HLL := hid hL
  have W0 := hid (show (⟨l, 0, Acc.zero⟩ : Bk).Wd from hu)
  have F0 := hid (new_fit hh)
  have T0 := hid (Two2.new R hh)
  have HH := hid hh
  have PP := hid (fun Ha Hb B t c0 c1 => two_pure C R hh (Ha := Ha) (Hb := Hb) (B := B) t c0 c1)
  clear C R hT hu hL
  have hl := fun w hw => lof_yes c v l w hw hth
  unfold Cf.val MadeBoth refMem Acc.zero at hl
  have HL := hid hl
  have HW := hid hw
  have HIX := hid (index_any h hh)
  clear hl hw
  go_enter Try.func9, Try.ntmps9
  go_wp2_with fail
  refine (HL.out _ (HW.out.gr (((Gr.refl w).alloc _).alloc _))).mono ?_
  rintro e w1 ⟨m, p, q, g, cap, rfl, hm, hwr, g1, ⟨sm, sp, sq, sg⟩, hapart, hglt⟩
  have AX := hid (Blk.gr ((Blk.new w #[.int .i64 c.th, .int .i64 c.sl, .int .i64 c.cp, .int .i64 c.he, .int .i64 c.ke, .int .i64 c.ev, .int .i64 c.la] 23).alloc (.cells #[.int .u64 h, .slice none L.length capL] 43)) g1)
  have AZ : Hid (Blk w1 (w.heap.size + 1) #[.int .u64 h, .slice none L.length capL] 43) := hid (Blk.gr (Blk.new' (by simp)) g1)
  have G1 := hid (Gr.trans (((Gr.refl w).alloc _).alloc _) g1 : Gr w w1)
  have M1 := hid hm
  have hsz : ((w.alloc (.cells #[.int .i64 c.th, .int .i64 c.sl, .int .i64 c.cp, .int .i64 c.he, .int .i64 c.ke, .int .i64 c.ev, .int .i64 c.la] 23)).alloc (.cells #[.int .u64 h, .slice none L.length capL] 43)).heap.size = w.heap.size + 2 := by simp
  rw [hsz] at sm sp sq
  have SS := hid (⟨sm, sp, sq⟩ : _ ∧ _ ∧ _)
  have mlt : m < w1.heap.size := hm.mem.lt
  have plt : p < w1.heap.size := hm.bank.head.lt
  have qlt : q < w1.heap.size := hm.bank.row.lt
  have alt : w.heap.size < w1.heap.size := AX.out.lt
  clear g1 hm hwr sm sp sq sg hapart hglt hsz
  have x0 := (AX.out).cell (i := 0) rfl
  have x1 := (AX.out).cell (i := 1) rfl
  have x2 := (AX.out).cell (i := 2) rfl
  have x3 := (AX.out).cell (i := 3) rfl
  have x4 := (AX.out).cell (i := 4) rfl
  have x5 := (AX.out).cell (i := 5) rfl
  have x6 := (AX.out).cell (i := 6) rfl
  go_wp2_with fail
  refine (HL.out _ (HW.out.gr (G1.out.alloc _))).mono ?_
  rintro e w2 ⟨m2, p2, q2, g2, cap2, rfl, hm, hwr, gg, ⟨sm, sp, sq, sg⟩, hapart, hglt⟩
  clear x0 x1 x2 x3 x4 x5 x6
  have hsz : (w1.alloc (.cells #[.int .i64 c.th, .int .i64 c.sl, .int .i64 c.cp, .int .i64 c.he, .int .i64 c.ke, .int .i64 c.ev, .int .i64 c.la, .slice (some ⟨g, 0, none⟩) l.length cap, .int .i64 0, .int .i64 0, .int .i64 0, .int .u64 0, .int .u64 0, .int .u64 0, .bool false] 50)).heap.size = w1.heap.size + 1 := by simp
  rw [hsz] at sm sp sq
  have SS2 := hid (⟨sm, sp, sq⟩ : _ ∧ _ ∧ _)
  have mlt2 : m2 < w2.heap.size := hm.mem.lt
  have plt2 : p2 < w2.heap.size := hm.bank.head.lt
  have qlt2 : q2 < w2.heap.size := hm.bank.row.lt
  have w12 : w1.heap.size + 1 ≤ w2.heap.size := by have := gg.size; omega
  have BX := hid (((AX.out.alloc (.cells #[.int .i64 c.th, .int .i64 c.sl, .int .i64 c.cp, .int .i64 c.he, .int .i64 c.ke, .int .i64 c.ev, .int .i64 c.la, .slice (some ⟨g, 0, none⟩) l.length cap, .int .i64 0, .int .i64 0, .int .i64 0, .int .u64 0, .int .u64 0, .int .u64 0, .bool false] 50)).gr gg).alloc (.cells #[.int .i64 c.th, .int .i64 c.sl, .int .i64 c.cp, .int .i64 c.he, .int .i64 c.ke, .int .i64 c.ev, .int .i64 c.la, .slice (some ⟨g2, 0, none⟩) l.length cap2, .int .i64 0, .int .i64 0, .int .i64 0, .int .u64 0, .int .u64 0, .int .u64 0, .bool false] 50))
  have BZ := hid (((AZ.out.alloc (.cells #[.int .i64 c.th, .int .i64 c.sl, .int .i64 c.cp, .int .i64 c.he, .int .i64 c.ke, .int .i64 c.ev, .int .i64 c.la, .slice (some ⟨g, 0, none⟩) l.length cap, .int .i64 0, .int .i64 0, .int .i64 0, .int .u64 0, .int .u64 0, .int .u64 0, .bool false] 50)).gr gg).alloc (.cells #[.int .i64 c.th, .int .i64 c.sl, .int .i64 c.cp, .int .i64 c.he, .int .i64 c.ke, .int .i64 c.ev, .int .i64 c.la, .slice (some ⟨g2, 0, none⟩) l.length cap2, .int .i64 0, .int .i64 0, .int .i64 0, .int .u64 0, .int .u64 0, .int .u64 0, .bool false] 50))
  have G2 := hid ((Gr.trans (G1.out.alloc (.cells #[.int .i64 c.th, .int .i64 c.sl, .int .i64 c.cp, .int .i64 c.he, .int .i64 c.ke, .int .i64 c.ev, .int .i64 c.la, .slice (some ⟨g, 0, none⟩) l.length cap, .int .i64 0, .int .i64 0, .int .i64 0, .int .u64 0, .int .u64 0, .int .u64 0, .bool false] 50)) gg).alloc (.cells #[.int .i64 c.th, .int .i64 c.sl, .int .i64 c.cp, .int .i64 c.he, .int .i64 c.ke, .int .i64 c.ev, .int .i64 c.la, .slice (some ⟨g2, 0, none⟩) l.length cap2, .int .i64 0, .int .i64 0, .int .i64 0, .int .u64 0, .int .u64 0, .int .u64 0, .bool false] 50))
  have MA := hid (M1.out.gr ((Gr.trans ((Gr.refl w1).alloc (.cells #[.int .i64 c.th, .int .i64 c.sl, .int .i64 c.cp, .int .i64 c.he, .int .i64 c.ke, .int .i64 c.ev, .int .i64 c.la, .slice (some ⟨g, 0, none⟩) l.length cap, .int .i64 0, .int .i64 0, .int .i64 0, .int .u64 0, .int .u64 0, .int .u64 0, .bool false] 50)) gg).alloc (.cells #[.int .i64 c.th, .int .i64 c.sl, .int .i64 c.cp, .int .i64 c.he, .int .i64 c.ke, .int .i64 c.ev, .int .i64 c.la, .slice (some ⟨g2, 0, none⟩) l.length cap2, .int .i64 0, .int .i64 0, .int .i64 0, .int .u64 0, .int .u64 0, .int .u64 0, .bool false] 50)))
  have MB := hid (hm.gr ((Gr.refl w2).alloc (.cells #[.int .i64 c.th, .int .i64 c.sl, .int .i64 c.cp, .int .i64 c.he, .int .i64 c.ke, .int .i64 c.ev, .int .i64 c.la, .slice (some ⟨g2, 0, none⟩) l.length cap2, .int .i64 0, .int .i64 0, .int .i64 0, .int .u64 0, .int .u64 0, .int .u64 0, .bool false] 50)))
  have hsz2 : Hid ((w2.alloc (.cells #[.int .i64 c.th, .int .i64 c.sl, .int .i64 c.cp, .int .i64 c.he, .int .i64 c.ke, .int .i64 c.ev, .int .i64 c.la, .slice (some ⟨g2, 0, none⟩) l.length cap2, .int .i64 0, .int .i64 0, .int .i64 0, .int .u64 0, .int .u64 0, .int .u64 0, .bool false] 50)).heap.size = w2.heap.size + 1) := hid (by simp)
  clear gg AX AZ G1 M1 hm hwr sm sp sq sg hapart hglt hsz
  have AX := hid BX.out
  have AZ := hid BZ.out
  clear BX BZ
  go_wp2_with fail
  generalize (w2.alloc (.cells #[.int .i64 c.th, .int .i64 c.sl, .int .i64 c.cp, .int .i64 c.he, .int .i64 c.ke, .int .i64 c.ev, .int .i64 c.la, .slice (some ⟨g2, 0, none⟩) l.length cap2, .int .i64 0, .int .i64 0, .int .i64 0, .int .u64 0, .int .u64 0, .int .u64 0, .bool false] 50)) = W at *
  refine wp_region_anyC (n := 12) (Gr W) (by kernel_rfl) rfl ?_
  refine anyC_quiet (a1 := ?a1) (by kernel_rfl) 6 [0, 1, 3, 4, 6, 7] _ _ _ (by kernel_rfl) (by kernel_rfl) (Gr.refl W).drew ?_ ?_
  rotate_left
  · intro w' g'
    have hne : Nonempty (St (· = w')) := ⟨⟨w', rfl⟩⟩
    have X3 := AZ.out.gr g'
    have y0 : ∀ s : St (· = w'), s.val.cell? ⟨w.heap.size + 1, 0, none⟩ = some (.int .u64 h) := fun s => by rw [s.ok]; exact X3.cell rfl
    clear X3 g'
    conv => arg 5; simp only [picked, List.filterMap_cons, List.filterMap_nil, List.getElem?_toArray, List.getElem?_cons_zero, List.getElem?_cons_succ]
    show wpQuiet _ _ _ _ [_, _, _, _, _, _] _
    repeat (go_big_quiet_step (fail))
    refine wpQuiet_nil ?_
    rfl
  refine anyC_alone 2 (Gr.refl W).drew (by kernel_rfl) (by kernel_rfl) ?_
  conv => arg 4; simp only [picked, List.filterMap_cons, List.filterMap_nil, List.getElem?_toArray, List.getElem?_cons_zero, List.getElem?_cons_succ]
  show wpList _ _ _ [_] _ _
  go_wp2_with fail
  refine (hnew_any h _).mono ?_
  rintro e w6 ⟨rfl, rfl⟩
  go_wp2_with fail
  refine ⟨(Gr.refl W).drew.alloc _, ?_⟩
  refine anyC_alone 5 ((Gr.refl W).drew.alloc _) (by kernel_rfl) (by kernel_rfl) ?_
  conv => arg 4; simp only [picked, List.filterMap_cons, List.filterMap_nil, List.getElem?_toArray, List.getElem?_cons_zero, List.getElem?_cons_succ]
  show wpList _ _ _ [_] _ _
  go_wp2_with fail
  refine (hnew_any h _).mono ?_
  rintro e w6 ⟨rfl, rfl⟩
  go_wp2_with fail
  refine ⟨((Gr.refl W).drew.alloc _).alloc _, ?_⟩
  refine anyC_alone 8 (((Gr.refl W).drew.alloc _).alloc _) (by kernel_rfl) (by kernel_rfl) ?_
  conv => arg 4; simp only [picked, List.filterMap_cons, List.filterMap_nil, List.getElem?_toArray, List.getElem?_cons_zero, List.getElem?_cons_succ]
  show wpList _ _ _ [_] _ _
  go_wp2_with fail
  refine (hnew_any h _).mono ?_
  rintro e w6 ⟨rfl, rfl⟩
  have G6 : Hid (Gr W ((((W.alloc (.cells (helpRow (HS.new h)) 98)).alloc (.cells (helpRow (HS.new h)) 98)).alloc (.cells (helpRow (HS.new h)) 98)).drew)) := hid (((((Gr.refl W).alloc _).alloc _).alloc _).drew)
  have A1 : Hid (Blk ((((W.alloc (.cells (helpRow (HS.new h)) 98)).alloc (.cells (helpRow (HS.new h)) 98)).alloc (.cells (helpRow (HS.new h)) 98)).drew) W.heap.size (helpRow (HS.new h)) 98) := hid (Blk.drew (((Blk.new' rfl).alloc _).alloc _))
  have A2 : Hid (Blk ((((W.alloc (.cells (helpRow (HS.new h)) 98)).alloc (.cells (helpRow (HS.new h)) 98)).alloc (.cells (helpRow (HS.new h)) 98)).drew) (W.heap.size + 1) (helpRow (HS.new h)) 98) := hid (Blk.drew ((Blk.new' (by simp)).alloc _))
  have A3 : Hid (Blk ((((W.alloc (.cells (helpRow (HS.new h)) 98)).alloc (.cells (helpRow (HS.new h)) 98)).alloc (.cells (helpRow (HS.new h)) 98)).drew) (W.heap.size + 2) (helpRow (HS.new h)) 98) := hid (Blk.drew (Blk.new' (by simp)))
  go_wp2_with fail
  generalize ((((W.alloc (.cells (helpRow (HS.new h)) 98)).alloc (.cells (helpRow (HS.new h)) 98)).alloc (.cells (helpRow (HS.new h)) 98)).drew) = W6 at *
  refine ⟨G6.out, ?_⟩
  refine anyC_quiet (a1 := ?a2) (by kernel_rfl) 0 [9, 10, 11] _ _ _ (by kernel_rfl) (by kernel_rfl) G6.out ?_ ?_
  rotate_left
  · intro w' g'
    have hne : Nonempty (St (· = w')) := ⟨⟨w', rfl⟩⟩
    clear g'
    conv => arg 5; simp only [picked, List.filterMap_cons, List.filterMap_nil, List.getElem?_toArray, List.getElem?_cons_zero, List.getElem?_cons_succ]
    show wpQuiet _ _ _ _ [_, _, _] _
    repeat (go_big_quiet_step (fail))
    refine wpQuiet_nil ?_
    rfl
  refine ⟨by kernel_rfl, ?_⟩
  have CX := hid (AX.out.gr G6.out)
  have CZ := hid (AZ.out.gr G6.out)
  have hne : Nonempty (St (Gr W6)) := ⟨⟨W6, Gr.refl _⟩⟩
  have x0 : ∀ s : St (Gr W6), s.val.cell? ⟨w.heap.size, 0, none⟩ = some (.int .i64 c.th) := fun s => (Blk.gr CX.out s.ok).cell rfl
  have x1 : ∀ s : St (Gr W6), s.val.cell? ⟨w.heap.size, 1, none⟩ = some (.int .i64 c.sl) := fun s => (Blk.gr CX.out s.ok).cell rfl
  have x2 : ∀ s : St (Gr W6), s.val.cell? ⟨w.heap.size, 2, none⟩ = some (.int .i64 c.cp) := fun s => (Blk.gr CX.out s.ok).cell rfl
  have x3 : ∀ s : St (Gr W6), s.val.cell? ⟨w.heap.size, 3, none⟩ = some (.int .i64 c.he) := fun s => (Blk.gr CX.out s.ok).cell rfl
  have x4 : ∀ s : St (Gr W6), s.val.cell? ⟨w.heap.size, 4, none⟩ = some (.int .i64 c.ke) := fun s => (Blk.gr CX.out s.ok).cell rfl
  have x5 : ∀ s : St (Gr W6), s.val.cell? ⟨w.heap.size, 5, none⟩ = some (.int .i64 c.ev) := fun s => (Blk.gr CX.out s.ok).cell rfl
  have x6 : ∀ s : St (Gr W6), s.val.cell? ⟨w.heap.size, 6, none⟩ = some (.int .i64 c.la) := fun s => (Blk.gr CX.out s.ok).cell rfl
  have z0 : ∀ s : St (Gr W6), s.val.cell? ⟨w.heap.size + 1, 0, none⟩ = some (.int .u64 h) := fun s => (Blk.gr CZ.out s.ok).cell rfl
  have z1 : ∀ s : St (Gr W6), s.val.cell? ⟨w.heap.size + 1, 1, none⟩ = some (.slice none L.length capL) := fun s => (Blk.gr CZ.out s.ok).cell rfl
  go_wp2_with fail
  refine wp_region_inv (Gr W6) (by kernel_rfl) (by kernel_rfl) (Gr.refl W6).drew ?_
  repeat (go_big_quiet_step ((go_at_call 29; (with_reducible exact Calls.st_gr (HIX.out _)))))
  refine wpQuiet_nil ?_
  rintro W7 ⟨⟨_, g7⟩, rfl⟩
  clear x0 x1 x2 x3 x4 x5 x6 z0 z1 hne
  have G7 := hid (Gr.trans G2.out (Gr.trans G6.out g7))
  have MA7 := hid (MA.out.gr (Gr.trans G6.out g7))
  have MB7 := hid (MB.out.gr (Gr.trans G6.out g7))
  have D1 := hid (Blk.gr A1.out g7)
  have D2 := hid (Blk.gr A2.out g7)
  have D3 := hid (Blk.gr A3.out g7)
  have EZ := hid (CZ.out.gr g7)
  have zz0 := G2.out.size
  have zz1 := hsz2.out
  have w1s := SS.out
  have w2s := SS2.out
  have n1 : W.heap.size ≠ m ∧ W.heap.size ≠ p ∧ W.heap.size ≠ q := ⟨by omega, by omega, by omega⟩
  have n2 : W.heap.size + 1 ≠ m ∧ W.heap.size + 1 ≠ p ∧ W.heap.size + 1 ≠ q := ⟨by omega, by omega, by omega⟩
  have n3 : W.heap.size + 2 ≠ m2 ∧ W.heap.size + 2 ≠ p2 ∧ W.heap.size + 2 ≠ q2 := ⟨by omega, by omega, by omega⟩
  have t1 : ∀ k, Tri W.heap.size p q k → w.heap.size ≤ k ∧ k ≠ W.heap.size + 1 ∧ k ≠ W.heap.size + 2 ∧ k ≠ m2 ∧ k ≠ p2 ∧ k ≠ q2 := by
    intro k hk
    unfold Tri at hk
    rcases hk with hk | hk | hk <;> (refine ⟨?_, ?_, ?_, ?_, ?_, ?_⟩ <;> omega)
  have t2 : ∀ k, Tri (W.heap.size + 1) p q k → w.heap.size ≤ k ∧ k ≠ W.heap.size ∧ k ≠ W.heap.size + 2 ∧ k ≠ m2 ∧ k ≠ p2 ∧ k ≠ q2 := by
    intro k hk
    unfold Tri at hk
    rcases hk with hk | hk | hk <;> (refine ⟨?_, ?_, ?_, ?_, ?_, ?_⟩ <;> omega)
  have t3 : ∀ k, Tri (W.heap.size + 2) p2 q2 k → w.heap.size ≤ k ∧ k ≠ W.heap.size ∧ k ≠ W.heap.size + 1 ∧ k ≠ m ∧ k ≠ p ∧ k ≠ q := by
    intro k hk
    unfold Tri at hk
    rcases hk with hk | hk | hk <;> (refine ⟨?_, ?_, ?_, ?_, ?_, ?_⟩ <;> omega)
  have N1 := hid n1
  have N2 := hid n2
  have N3 := hid n3
  have T1 := hid t1
  have T2 := hid t2
  have T3 := hid t3
  have z0 := EZ.out.cell (i := 0) rfl
  have z1 := EZ.out.cell (i := 1) rfl
  clear n1 n2 n3 t1 t2 t3 w1s w2s g7 A1 A2 A3 MA MB CX CZ AX AZ G6 G2 mlt plt qlt mlt2 plt2 qlt2 w12 hsz2 zz0 zz1 alt
  generalize W.heap.size = ah at *
  go_wp2_with fail
  clear z0 z1
  go_loopw [87] (fun i wr => ∃ (k : Nat) (Ha Hb : HS) (B : Bk), k ≤ L.length ∧ i = .int .i64 (k : Int) ∧ IsHelp wr ah Ha ∧ IsHelp wr (ah + 1) Hb ∧ IsHelp wr (ah + 2) (HS.new h) ∧ IsMem wr m p q c B ∧ IsMem wr m2 p2 q2 c ⟨l, 0, Acc.zero⟩ ∧ Gr w wr ∧ Two2 c h T l Ha Hb B ∧ 0 ≤ B.count ∧ B.count ≤ k) (fun i _ => L.length - (intOf i).toNat)
  case atStart => exact ⟨0, HS.new h, HS.new h, ⟨l, 0, Acc.zero⟩, Nat.zero_le _, rfl, D1.out, D2.out, D3.out, MA7.out, MB7.out, G7.out, T0.out, by show (0 : Int) ≤ 0; omega, by show (0 : Int) ≤ _; omega⟩
  case round =>
    obtain ⟨k, Ha, Hb, B, hk, rfl, ha, hb, hd3, hma, hmb, hg, ht, hc0, hc1⟩ := hrel
    have ha := hid ha
    have hb := hid hb
    have hd3 := hid hd3
    have hma := hid hma
    have hmb := hid hmb
    have hg := hid hg
    have ht := hid ht
    have hc0 := hid hc0
    have hc1 := hid hc1
    by_cases hlt : k < L.length
    · have := HLL.out
      omega
    · have hge : ¬ (k : Int) < L.length := by omega
      obtain ⟨p1, p2', p3, p4, p5, p6⟩ := PP.out Ha Hb B ht.out hc0.out (by have := hc1.out; omega)
      have P1 := hid p1
      have P2 := hid p2'
      have P3 := hid p3
      have P4 := hid p4
      have P5 := hid p5
      have E1 := hid (fun w x y => ends_any ah m p q c HOK.out Ha B w 100 (by omega) x y N1.out.1 N1.out.2.1 N1.out.2.2 ht.out.fa ht.out.row.wd)
      have E2 := hid (fun w x y => ends_any (ah + 1) m p q c HOK.out Hb (endsf c 100 Ha B).2.2 w 100 (by omega) x y N2.out.1 N2.out.2.1 N2.out.2.2 ht.out.fb p6)
      have E3 := hid (fun w x y => ends_any (ah + 2) m2 p2 q2 c HOK.out (HS.new h) ⟨l, 0, Acc.zero⟩ w 100 (by omega) x y N3.out.1 N3.out.2.1 N3.out.2.2 F0.out W0.out)
      clear p1 p2' p3 p4 p5 p6
      go_wp2_with fail
      refine (E1.out _ ha.out hma.out).mono ?_
      rintro e u1 ⟨rfl, i1, i2, i3⟩
      have i1 := hid i1
      have i2 := hid i2
      have j1 := hid (Blk.chg hb.out i3 (fun hk => (T1.out _ hk).2.1 rfl))
      have j3 := hid (Blk.chg hd3.out i3 (fun hk => (T1.out _ hk).2.2.1 rfl))
      have j4 := hid (hmb.out.chg i3 (fun hk => (T1.out _ hk).2.2.2.1 rfl) (fun hk => (T1.out _ hk).2.2.2.2.1 rfl) (fun hk => (T1.out _ hk).2.2.2.2.2 rfl))
      have j5 := hid (Gr.step hg.out i3 (fun k hk => (T1.out k hk).1))
      clear i3
      go_wp2_with fail
      refine (E2.out _ j1.out i2.out).mono ?_
      rintro e u2 ⟨rfl, k1, k2, k3⟩
      have k1 := hid k1
      have k2 := hid k2
      have l1 := hid (Blk.chg i1.out k3 (fun hk => (T2.out _ hk).2.1 rfl))
      have l3 := hid (Blk.chg j3.out k3 (fun hk => (T2.out _ hk).2.2.1 rfl))
      have l4 := hid (j4.out.chg k3 (fun hk => (T2.out _ hk).2.2.2.1 rfl) (fun hk => (T2.out _ hk).2.2.2.2.1 rfl) (fun hk => (T2.out _ hk).2.2.2.2.2 rfl))
      have l5 := hid (Gr.step j5.out k3 (fun k hk => (T2.out k hk).1))
      clear k3
      go_wp2_with fail
      refine (E3.out _ l3.out l4.out).mono ?_
      rintro e u3 ⟨rfl, o1, o2, o3⟩
      have o1 := hid o1
      have o2 := hid o2
      have q1 := hid (Blk.chg l1.out o3 (fun hk => (T3.out _ hk).2.1 rfl))
      have q2' := hid (Blk.chg k1.out o3 (fun hk => (T3.out _ hk).2.2.1 rfl))
      have q4 := hid (k2.out.chg o3 (fun hk => (T3.out _ hk).2.2.2.1 rfl) (fun hk => (T3.out _ hk).2.2.2.2.1 rfl) (fun hk => (T3.out _ hk).2.2.2.2.2 rfl))
      have q5 := hid (Gr.step l5.out o3 (fun k hk => (T3.out k hk).1))
      clear o3
      have hbk := hid (mbank_any m2 p2 q2 c _ u3 o2.out)
      have hcl := hid (fun w hb => cells_any p2 q2 (endsf c 100 (HS.new h) ⟨l, 0, Acc.zero⟩).2.2 w hb (by rw [P5.out]; omega))
      have hbm := hid (fun w hm => mbank_any m p q c (endsf c 100 Hb (endsf c 100 Ha B).2.2).2.2 w hm)
      have hcm' := fun w hb => cells_any p q (endsf c 100 Hb (endsf c 100 Ha B).2.2).2.2 w hb (by rw [P4.out, P5.out]; omega)
      rw [P4.out] at hcm'
      have hcm := hid hcm'
      have hcsl : (endsf c 100 (HS.new h) ⟨l, 0, Acc.zero⟩).2.2.cells.length ≤ 400 := by rw [P5.out]; omega
      clear hcm' P4 P5 E1 E2 E3 PP
      generalize (endsf c 100 (HS.new h) ⟨l, 0, Acc.zero⟩) = Ro at *
      generalize (endsf c 100 Hb (endsf c 100 Ha B).2.2) = Rb at *
      generalize (endsf c 100 Ha B) = Ra at *
      generalize Ro.2.2.cells = cs at *
      go_wp2_with fail
      refine hbk.out.mono ?_
      rintro e u4 ⟨rfl, rfl⟩
      go_wp2_with fail
      refine (hcl.out _ o2.out.bank).mono ?_
      rintro e u5 ⟨rfl, hq5, g5⟩
      have Q5 := hid hq5
      have r1 := hid (Blk.gr q1.out g5)
      have r2 := hid (Blk.gr q2'.out g5)
      have r3 := hid (Blk.gr o1.out g5)
      have r4 := hid (q4.out.gr g5)
      have r5 := hid (Gr.trans q5.out g5)
      clear hq5 g5
      go_wp2_with fail
      go_loopw [112] (fun i wr => ∃ k : Nat, k ≤ cs.length ∧ i = .int .i64 (k : Int) ∧ Gr u5 wr) (fun i _ => cs.length - (intOf i).toNat)
      case atStart => exact ⟨0, Nat.zero_le _, rfl, Gr.refl _⟩
      case round =>
        obtain ⟨k', hk', rfl, gr0⟩ := hrel
        have GR := hid gr0
        clear gr0
        by_cases hlt2 : k' < cs.length
        · have hlt' : (k' : Int) < cs.length := by omega
          have hk0 : 0 ≤ (k' : Int) := by omega
          have hrow : (wordsRow cs)[k']? = some (.int .u64 cs[k']) := by simp [wordsRow_get, List.getD, hlt2]
          have HR := hid hrow
          clear hrow
          generalize cs[k'] = xx at *
          have y1 := (Blk.gr Q5.out GR.out).cell HR.out
          go_wp2_with fail
          refine (hbm.out _ (r4.out.gr GR.out)).mono ?_
          rintro e u6 ⟨rfl, rfl⟩
          go_wp2_with fail
          refine (hcm.out _ (r4.out.gr GR.out).bank).mono ?_
          rintro e u7 ⟨rfl, hq7, g7⟩
          have y2 := hq7.cell HR.out
          have GR7 := hid (Gr.trans GR.out g7)
          clear hq7 g7 y1
          go_wp2_with fail
          go_roundw
          case rel => exact ⟨k' + 1, by omega, by go_num, GR7.out⟩
          case measure => simp [intOf]; omega
        · have hge2 : ¬ (k' : Int) < cs.length := by omega
          go_wp2_with fail
          refine (halive _).mono ?_
          rintro e u8 ⟨rfl, g8⟩
          have GR8 := hid (Gr.trans GR.out g8)
          have d1 := hid (hdone_yes ah Ra.2.1 u8 (Blk.gr r1.out GR8.out) P1.out)
          have d2 := hid (hdone_yes (ah + 1) Rb.2.1 u8 (Blk.gr r2.out GR8.out) P2.out)
          have d3 := hid (hdone_yes (ah + 2) Ro.2.1 u8 (Blk.gr r3.out GR8.out) P3.out)
          clear g8
          go_wp2_with fail
          refine d1.out.mono ?_
          rintro e u9 ⟨rfl, rfl⟩
          go_wp2_with fail
          refine d2.out.mono ?_
          rintro e u9 ⟨rfl, rfl⟩
          go_wp2_with fail
          refine d3.out.mono ?_
          rintro e u9 ⟨rfl, rfl⟩
          go_wp2_with fail
          go_ret
          exact ⟨rfl, Gr.trans r5.out GR8.out⟩

theorem helpTwo_at {w : World} (a b c d e f g : Int) (v : Value) (l : List Int) (hw : Words w v l) (hl : l.length ≤ 17592186044416) (hu : ∀ x ∈ l, U64 x) (z : Value) (T : Int × List Bool) (ht : Turns w z T) :
    Calls Try.prog 9 #[.agg #[.int .i64 a, .int .i64 b, .int .i64 c, .int .i64 d, .int .i64 e, .int .i64 f, .int .i64 g], v, z] w fun e w' => e = .returned (.bool true) ∧ Gr w w' := by
  obtain ⟨s, rfl, hh, A, capL, rfl, hcap, hL⟩ := ht
  by_cases hth : There (Cf.mk a b c d e f g) l
  · by_cases hlong : 200 < T.2.length
    · exact two_long (Cf.mk a b c d e f g) v l T.1 hh A T.2 capL w hw hL hth hlong
    · by_cases hi : hI T.1 ≤ (Cf.mk a b c d e f g).cp
      · cases A with
        | none => exact two_main_none (Cf.mk a b c d e f g) v l T.1 hh T.2 capL w hw (by
            by_cases h0 : T.2.length = 0
            · exact h0
            · obtain ⟨_, e, _⟩ := hL 0 (by omega); cases e) hth hlong hi hu
        | some a0 => exact two_main_some (Cf.mk a b c d e f g) v l T.1 hh a0 T.2 capL w hw (fun i hi => by obtain ⟨a', e, k⟩ := hL i hi; cases e; exact k) hth hlong hi hu
      · exact two_far (Cf.mk a b c d e f g) v l T.1 hh A T.2 capL w hw hL hth hlong (by omega)
  · exact two_none (Cf.mk a b c d e f g) v l T.1 hh A T.2 capL w hw hL hth
end Go.Proofs.YthbkncklliiooaaH
