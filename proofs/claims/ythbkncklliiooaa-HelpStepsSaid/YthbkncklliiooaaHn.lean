/-
  A new world's words, as the document has them (stepstoneref05.New).
-/
import Derived.Test.YthbkncklliiooaaHb
import Derived.Test.YthbkncklliiooaaReg
import Derived.Test.YthbkncklliiooaaPua
import Derived.Test.YthbkncklliiooaaPub
import Derived.Test.YthbkncklliiooaaRc
namespace Go.Proofs.YthbkncklliiooaaH
set_option linter.unusedVariables false
set_option linter.unusedSimpArgs false
open Go.RowKit Go.Proofs.YthbkncklliiooaaW.PrintWords Go.Proofs.YthbkncklliiooaaW.PrintLast Go.Proofs.YthbkncklliiooaaW.PrintMore Go.Proofs.Ythbkncklliiooaa.Q

theorem run_make_small (n : Nat) (h : n ≤ 17592186044416) (w : World) : (Instr.makeSlice 39 (.int .i64 (n : Int)) (.int .i64 (n : Int))).run Try.prog w = .ok (.slice (some ⟨w.heap.size, 0, none⟩) n n) (w.alloc (.cells (zrow n) 40)) := run_make_big n h w

theorem Chg.set1' {k : Nat} {a : World} (o : Nat) (u : Value) : Chg (· = k) a (a.setCell ⟨k, o, none⟩ u) := Chg.setCell (F := (· = k)) (p := ⟨k, o, none⟩) (Chg.refl _ _) (.inl rfl) u

/-- A reference's new bank. -/
def RNew (w : World) (k : Nat) (e : Ending) (w' : World) : Prop :=
  ∃ q : Nat, e = .returned (.agg #[.slice (some ⟨q, 0, none⟩) k k, .int .i64 0, .int .i64 0, .int .i64 0, .int .u64 0, .int .u64 0, .int .u64 0, .bool false]) ∧ Blk w' q (zrow k) 40 ∧ Gr w w' ∧ w.heap.size ≤ q

set_option maxHeartbeats 1000000 in
theorem rnew_any (k : Nat) (hk : k ≤ 1000) (w : World) : Calls Try.prog 79 #[.int .i64 (k : Int)] w (RNew w k) := by
  have hmk := run_make_big k (by omega)
  have hk' : (k : Int) ≤ 1000 := by omega
  go_enter Try.func79, Try.ntmps79
  go_wp2
  refine bodyPost_ret (v := .agg #[.slice (some ⟨w.heap.size + 1, 0, none⟩) k k, .int .i64 0, .int .i64 0, .int .i64 0, .int .u64 0, .int .u64 0, .int .u64 0, .bool false]) (by simp [results, Try.results79, go_sem]) rfl ⟨w.heap.size + 1, rfl, Blk.new' (by simp), ((Gr.refl w).alloc _).alloc _, by omega⟩

/-- A new world's words. -/
def Cf.words0 (c : Cf) : List Int := (((List.replicate c.cells.toNat 0).set 0 1).set (c.cel 0 0).toNat 1).set (c.cel 0 4).toNat c.he

def R05 (w : World) (c : Cf) (l : List Int) (e : Ending) (w' : World) : Prop :=
  ∃ q : Nat, e = .returned (.agg #[.int .i64 c.th, .int .i64 c.sl, .int .i64 c.cp, .int .i64 c.he, .int .i64 c.ke, .int .i64 c.ev, .int .i64 c.la, .slice (some ⟨q, 0, none⟩) l.length l.length, .int .i64 0, .int .i64 0, .int .i64 0, .int .u64 0, .int .u64 0, .int .u64 0, .bool false]) ∧ Blk w' q (wordsRow l) 40 ∧ Gr w w' ∧ w.heap.size ≤ q

theorem ref_cell_any (c : Cf) (a b : Int) (w : World) : Calls Try.prog 23 #[.agg #[.int .i64 c.th, .int .i64 c.sl, .int .i64 c.cp, .int .i64 c.he, .int .i64 c.ke, .int .i64 c.ev, .int .i64 c.la], .int .i64 a, .int .i64 b] w fun e w' => e = .returned (.int .i64 (c.cel a b)) ∧ Gr w w' :=
  stepstoneref04_Cell.calls c.th c.sl c.cp c.he c.ke c.ev c.la a b _ w (ref_cell_f c a b)
theorem ref_len_any' (c : Cf) (w : World) : Calls Try.prog 19 #[.agg #[.int .i64 c.th, .int .i64 c.sl, .int .i64 c.cp, .int .i64 c.he, .int .i64 c.ke, .int .i64 c.ev, .int .i64 c.la]] w fun e w' => e = .returned (.int .i64 c.cells) ∧ Gr w w' :=
  stepstoneref04_Len.calls c.th c.sl c.cp c.he c.ke c.ev c.la _ w (ref_len_f c)
theorem taken0_any (w : World) : Calls Try.prog 61 #[.int .i64 0] w fun e w' => e = .returned (.int .u64 1) ∧ Gr w w' :=
  (stepstoneref02_Taken.calls 0 1 w (by decide +kernel)).mono fun _ _ h => ⟨h.1, h.2.below⟩

set_option maxRecDepth 100000 in
set_option maxHeartbeats 4000000 in
theorem r05_any (c : Cf) (hc : c.Ok) (w : World) :
    Calls Try.prog 59 #[.agg #[.int .i64 c.th, .int .i64 c.sl, .int .i64 c.cp, .int .i64 c.he, .int .i64 c.ke, .int .i64 c.ev, .int .i64 c.la]] w (R05 w c c.words0) := by
  obtain ⟨b0, b1, b2, b3, b4, b5⟩ := c.bounds hc
  have hcl := c.cells_ok hc
  have hcp := hc.2.2.2.2.1
  obtain ⟨e0, l0, l1⟩ := cel_yes c hc (a := 0) (b := 0) ⟨by omega, by omega⟩ ⟨by omega, by omega⟩
  obtain ⟨e4, m0, m1⟩ := cel_yes c hc (a := 0) (b := 4) ⟨by omega, by omega⟩ ⟨by omega, by omega⟩
  have hn := ref_len_any' c
  have hx := ref_cell_any c 0 0
  have hy := ref_cell_any c 0 4
  unfold Cf.words0
  have he1 : 1 ≤ c.he := hc.2.2.2.2.2.2.1
  have he2 : c.he ≤ 6 := hc.2.2.2.2.2.2.2.1
  obtain ⟨N, hN⟩ := Int.eq_ofNat_of_zero_le (by omega : 0 ≤ c.cells)
  obtain ⟨X, hX⟩ := Int.eq_ofNat_of_zero_le (by omega : 0 ≤ c.cel 0 0)
  obtain ⟨Y, hY⟩ := Int.eq_ofNat_of_zero_le (by omega : 0 ≤ c.cel 0 4)
  have n1 : N ≤ 1000 := by omega
  have n2 : X < N := by omega
  have n3 : Y < N := by omega
  have n4 : 0 < N := by omega
  rw [hN] at hn
  rw [hX] at hx
  rw [hY] at hy
  rw [hN, hX, hY]
  simp only [Int.toNat_natCast]
  have HN := hid hn
  have HX := hid hx
  have HY := hid hy
  clear hn hx hy hN hX hY e0 e4 hcl b0 b1 b2 b3 b4 b5 l0 l1 m0 m1 hcp hc
  go_enter Try.func59, Try.ntmps59
  go_wp2_with fail
  refine (HN.out _).mono ?_
  rintro e w1 ⟨rfl, g1⟩
  go_wp2_with fail
  refine (rnew_any N n1 w1).mono ?_
  rintro e w2 ⟨q, rfl, hq, g2, hqs⟩
  have hqz : Blk w2 q (wordsRow (List.replicate N 0)) 40 := hq
  have hql : q < w2.heap.size := hq.lt
  have q1 : w1.heap.size ≤ q := hqs
  have s1 : w.heap.size + 2 ≤ w1.heap.size := by have := g1.size; simpa using this
  have T1 : Blk w2 w.heap.size #[.int .i64 c.th, .int .i64 c.sl, .int .i64 c.cp, .int .i64 c.he, .int .i64 c.ke, .int .i64 c.ev, .int .i64 c.la] 23 := Blk.gr ((Blk.new _ _ _).alloc _) (Gr.trans g1 g2)
  have T2 : Blk w2 (w.heap.size + 1) #[.int .i64 0, .int .i64 0, .int .i64 0, .int .i64 0, .int .i64 0, .int .i64 0, .int .i64 0, .slice none 0 0, .int .i64 0, .int .i64 0, .int .i64 0, .int .u64 0, .int .u64 0, .int .u64 0, .bool false] 50 := Blk.gr (Blk.new' (by simp)) (Gr.trans g1 g2)
  have GG := hid (Gr.trans (((Gr.refl w).alloc _).alloc _) (Gr.trans g1 g2) : Gr w w2)
  have qc : w2.cell? ⟨q, 0, none⟩ = some (.int .u64 0) := hqz.cell (by simp [wordsRow_get, n4])
  have qf : ∀ i, w2.frozen? ⟨q, i, none⟩ = false := fun i => hqz.free i
  have n4' : (0 : Int) < N := by omega
  have HQ := hid hqz
  have HT1 := hid T1
  have HT2 := hid T2
  have hqs := hid hqs
  clear hq hqz T1 T2 g1 g2 hqs
  go_wp2_with fail
  have AQ := hid ((Blk.set HQ.out 0 (.int .u64 1)).alloc (.cells #[.slice (some ⟨q, 0, none⟩) N N, .int .i64 0, .int .i64 0, .int .i64 0, .int .u64 0, .int .u64 0, .int .u64 0, .bool false] 48))
  have AT := hid ((Blk.set_other HT1.out (a := ⟨q, 0, none⟩) (by simp; omega) (.int .u64 1)).alloc (.cells #[.slice (some ⟨q, 0, none⟩) N N, .int .i64 0, .int .i64 0, .int .i64 0, .int .u64 0, .int .u64 0, .int .u64 0, .bool false] 48))
  have AR := hid ((Blk.set_other HT2.out (a := ⟨q, 0, none⟩) (by simp; omega) (.int .u64 1)).alloc (.cells #[.slice (some ⟨q, 0, none⟩) N N, .int .i64 0, .int .i64 0, .int .i64 0, .int .u64 0, .int .u64 0, .int .u64 0, .bool false] 48))
  have AB : Hid (Blk ((w2.setCell ⟨q, 0, none⟩ (.int .u64 1)).alloc (.cells #[.slice (some ⟨q, 0, none⟩) N N, .int .i64 0, .int .i64 0, .int .i64 0, .int .u64 0, .int .u64 0, .int .u64 0, .bool false] 48)) w2.heap.size #[.slice (some ⟨q, 0, none⟩) N N, .int .i64 0, .int .i64 0, .int .i64 0, .int .u64 0, .int .u64 0, .int .u64 0, .bool false] 48) := hid (Blk.new' (by simp))
  have AG := hid ((GG.out.setCell (p := ⟨q, 0, none⟩) (by simp; omega) (.int .u64 1)).alloc (.cells #[.slice (some ⟨q, 0, none⟩) N N, .int .i64 0, .int .i64 0, .int .i64 0, .int .u64 0, .int .u64 0, .int .u64 0, .bool false] 48))
  have asz : ((w2.setCell ⟨q, 0, none⟩ (.int .u64 1)).alloc (.cells #[.slice (some ⟨q, 0, none⟩) N N, .int .i64 0, .int .i64 0, .int .i64 0, .int .u64 0, .int .u64 0, .int .u64 0, .bool false] 48)).heap.size = w2.heap.size + 1 := by simp
  clear qc qf
  generalize ((w2.setCell ⟨q, 0, none⟩ (.int .u64 1)).alloc (.cells #[.slice (some ⟨q, 0, none⟩) N N, .int .i64 0, .int .i64 0, .int .i64 0, .int .u64 0, .int .u64 0, .int .u64 0, .bool false] 48)) = w3 at *
  have AS := hid asz
  clear asz
  refine wp_region_anyC (n := 7) (Chg (· = q) w3) (by kernel_rfl) rfl ?_
  refine anyC_quiet (a1 := ?a1) (by kernel_rfl) 4 [0, 1, 2] _ _ _ (by kernel_rfl) (by kernel_rfl) (Chg.refl _ w3).drew ?_ ?_
  rotate_left
  · intro w' g'
    have hne : Nonempty (St (· = w')) := ⟨⟨w', rfl⟩⟩
    have X3 := Blk.chg AT.out g' (by intro hh; omega)
    have X4 := Blk.chg AB.out g' (by intro hh; omega)
    have y0 : ∀ s : St (· = w'), s.val.cell? ⟨w.heap.size, 0, none⟩ = some (.int .i64 c.th) := fun s => by rw [s.ok]; exact X3.cell rfl
    have y1 : ∀ s : St (· = w'), s.val.cell? ⟨w.heap.size, 1, none⟩ = some (.int .i64 c.sl) := fun s => by rw [s.ok]; exact X3.cell rfl
    have y2 : ∀ s : St (· = w'), s.val.cell? ⟨w.heap.size, 2, none⟩ = some (.int .i64 c.cp) := fun s => by rw [s.ok]; exact X3.cell rfl
    have y3 : ∀ s : St (· = w'), s.val.cell? ⟨w.heap.size, 3, none⟩ = some (.int .i64 c.he) := fun s => by rw [s.ok]; exact X3.cell rfl
    have y4 : ∀ s : St (· = w'), s.val.cell? ⟨w.heap.size, 4, none⟩ = some (.int .i64 c.ke) := fun s => by rw [s.ok]; exact X3.cell rfl
    have y5 : ∀ s : St (· = w'), s.val.cell? ⟨w.heap.size, 5, none⟩ = some (.int .i64 c.ev) := fun s => by rw [s.ok]; exact X3.cell rfl
    have y6 : ∀ s : St (· = w'), s.val.cell? ⟨w.heap.size, 6, none⟩ = some (.int .i64 c.la) := fun s => by rw [s.ok]; exact X3.cell rfl
    have y7 : ∀ s : St (· = w'), s.val.cell? ⟨w2.heap.size, 0, none⟩ = some (.slice (some ⟨q, 0, none⟩) N N) := fun s => by rw [s.ok]; exact X4.cell rfl
    clear X3 X4 g'
    conv => arg 5; simp only [picked, List.filterMap_cons, List.filterMap_nil, List.getElem?_toArray, List.getElem?_cons_zero, List.getElem?_cons_succ]
    show wpQuiet _ _ _ _ [_, _, _] _
    repeat (go_big_quiet_step (fail))
    refine wpQuiet_nil ?_
    rfl
  refine anyC_alone 3 (Chg.refl _ w3).drew (by kernel_rfl) (by kernel_rfl) ?_
  conv => arg 4; simp only [picked, List.filterMap_cons, List.filterMap_nil, List.getElem?_toArray, List.getElem?_cons_zero, List.getElem?_cons_succ]
  show wpList _ _ _ [_] _ _
  go_wp2_with fail
  refine (HX.out _).mono ?_
  rintro e w4 ⟨rfl, g4⟩
  have C4 := hid (Gr.chg (Gr.trans (Gr.refl w3).drew g4) : Chg (· = q) w3 w4)
  have G4 := hid (Gr.trans (Gr.refl w3).drew g4 : Gr w3 w4)
  clear g4
  go_wp2_with fail
  refine ⟨C4.out, ?_⟩
  refine anyC_alone 4 C4.out (by kernel_rfl) (by kernel_rfl) ?_
  conv => arg 4; simp only [picked, List.filterMap_cons, List.filterMap_nil, List.getElem?_toArray, List.getElem?_cons_zero, List.getElem?_cons_succ]
  show wpList _ _ _ [_] _ _
  go_wp2_with fail
  refine (taken0_any _).mono ?_
  rintro e w5 ⟨rfl, g5⟩
  have C5 := hid (Chg.trans C4.out (Gr.chg g5) : Chg (· = q) w3 w5)
  have G5 := hid (Gr.trans G4.out g5 : Gr w3 w5)
  clear g5
  go_wp2_with fail
  refine ⟨C5.out, ?_⟩
  have nX : (X : Int) < N := by omega
  refine anyC_alone 5 C5.out (by kernel_rfl) (by kernel_rfl) ?_
  conv => arg 4; simp only [picked, List.filterMap_cons, List.filterMap_nil, List.getElem?_toArray, List.getElem?_cons_zero, List.getElem?_cons_succ]
  show wpList _ _ _ [_] _ _
  go_wp2_with fail
  refine ⟨C5.out, ?_⟩
  refine anyC_alone 6 C5.out (by kernel_rfl) (by kernel_rfl) ?_
  conv => arg 4; simp only [picked, List.filterMap_cons, List.filterMap_nil, List.getElem?_toArray, List.getElem?_cons_zero, List.getElem?_cons_succ]
  show wpList _ _ _ [_] _ _
  have Q5 := AQ.out.gr G5.out
  rw [wordsRow_set] at Q5
  have qc := Q5.cell (i := X) (v := .int .u64 (((List.replicate N 0).set 0 1).getD X 0)) (by simp [wordsRow_get, List.getD, n2])
  have qf : ∀ i, w5.frozen? ⟨q, i, none⟩ = false := fun i => Q5.free i
  have HQ5 := hid Q5
  have hq5 := Q5.lt
  clear Q5
  go_wp2_with fail
  have C6 := hid (Chg.trans C5.out (Chg.set1' (k := q) X (.int .u64 1)))
  have Q6 := hid (Blk.set HQ5.out X (.int .u64 1))
  have AT6 := hid (Blk.set_other (AT.out.gr G5.out) (a := ⟨q, X, none⟩) (by simp; omega) (.int .u64 1))
  have AR6 := hid (Blk.set_other (AR.out.gr G5.out) (a := ⟨q, X, none⟩) (by simp; omega) (.int .u64 1))
  have AB6 := hid (Blk.set_other (AB.out.gr G5.out) (a := ⟨q, X, none⟩) (by simp; omega) (.int .u64 1))
  have AG6 := hid ((Gr.trans AG.out G5.out).setCell (p := ⟨q, X, none⟩) (by simp; omega) (.int .u64 1))
  clear qc qf
  generalize (w5.setCell ⟨q, X, none⟩ (.int .u64 1)) = w6 at *
  refine ⟨C6.out, by kernel_rfl, ?_⟩
  go_wp2_with fail
  refine wp_region_anyC (n := 9) (Chg (· = q) w6) (by kernel_rfl) rfl ?_
  refine anyC_quiet (a1 := ?a2) (by kernel_rfl) 3 [0, 1, 2, 4, 5, 6] _ _ _ (by kernel_rfl) (by kernel_rfl) (Chg.refl _ w6).drew ?_ ?_
  rotate_left
  · intro w' g'
    have hne : Nonempty (St (· = w')) := ⟨⟨w', rfl⟩⟩
    have X3 := Blk.chg AT6.out g' (by intro hh; omega)
    have X4 := Blk.chg AB6.out g' (by intro hh; omega)
    have y0 : ∀ s : St (· = w'), s.val.cell? ⟨w.heap.size, 0, none⟩ = some (.int .i64 c.th) := fun s => by rw [s.ok]; exact X3.cell rfl
    have y1 : ∀ s : St (· = w'), s.val.cell? ⟨w.heap.size, 1, none⟩ = some (.int .i64 c.sl) := fun s => by rw [s.ok]; exact X3.cell rfl
    have y2 : ∀ s : St (· = w'), s.val.cell? ⟨w.heap.size, 2, none⟩ = some (.int .i64 c.cp) := fun s => by rw [s.ok]; exact X3.cell rfl
    have y3 : ∀ s : St (· = w'), s.val.cell? ⟨w.heap.size, 3, none⟩ = some (.int .i64 c.he) := fun s => by rw [s.ok]; exact X3.cell rfl
    have y4 : ∀ s : St (· = w'), s.val.cell? ⟨w.heap.size, 4, none⟩ = some (.int .i64 c.ke) := fun s => by rw [s.ok]; exact X3.cell rfl
    have y5 : ∀ s : St (· = w'), s.val.cell? ⟨w.heap.size, 5, none⟩ = some (.int .i64 c.ev) := fun s => by rw [s.ok]; exact X3.cell rfl
    have y6 : ∀ s : St (· = w'), s.val.cell? ⟨w.heap.size, 6, none⟩ = some (.int .i64 c.la) := fun s => by rw [s.ok]; exact X3.cell rfl
    have y7 : ∀ s : St (· = w'), s.val.cell? ⟨w2.heap.size, 0, none⟩ = some (.slice (some ⟨q, 0, none⟩) N N) := fun s => by rw [s.ok]; exact X4.cell rfl
    clear X3 X4 g'
    conv => arg 5; simp only [picked, List.filterMap_cons, List.filterMap_nil, List.getElem?_toArray, List.getElem?_cons_zero, List.getElem?_cons_succ]
    show wpQuiet _ _ _ _ [_, _, _, _, _, _] _
    repeat (go_big_quiet_step (fail))
    refine wpQuiet_nil ?_
    rfl
  refine anyC_alone 3 (Chg.refl _ w6).drew (by kernel_rfl) (by kernel_rfl) ?_
  conv => arg 4; simp only [picked, List.filterMap_cons, List.filterMap_nil, List.getElem?_toArray, List.getElem?_cons_zero, List.getElem?_cons_succ]
  show wpList _ _ _ [_] _ _
  go_wp2_with fail
  refine (HY.out _).mono ?_
  rintro e w7 ⟨rfl, g7⟩
  have C7 := hid (Gr.chg (Gr.trans (Gr.refl w6).drew g7) : Chg (· = q) w6 w7)
  have G7 := hid (Gr.trans (Gr.refl w6).drew g7 : Gr w6 w7)
  clear g7
  go_wp2_with fail
  refine ⟨C7.out, ?_⟩
  have nY : (Y : Int) < N := by omega
  refine anyC_alone 7 C7.out (by kernel_rfl) (by kernel_rfl) ?_
  conv => arg 4; simp only [picked, List.filterMap_cons, List.filterMap_nil, List.getElem?_toArray, List.getElem?_cons_zero, List.getElem?_cons_succ]
  show wpList _ _ _ [_] _ _
  go_wp2_with fail
  refine ⟨C7.out, ?_⟩
  refine anyC_alone 8 C7.out (by kernel_rfl) (by kernel_rfl) ?_
  conv => arg 4; simp only [picked, List.filterMap_cons, List.filterMap_nil, List.getElem?_toArray, List.getElem?_cons_zero, List.getElem?_cons_succ]
  show wpList _ _ _ [_] _ _
  have Q7 := Q6.out.gr G7.out
  rw [wordsRow_set] at Q7
  have qc := Q7.cell (i := Y) (v := .int .u64 ((((List.replicate N 0).set 0 1).set X 1).getD Y 0)) (by simp [wordsRow_get, List.getD, n3])
  have qf : ∀ i, w7.frozen? ⟨q, i, none⟩ = false := fun i => Q7.free i
  have HQ7 := hid Q7
  have hq7 := Q7.lt
  clear Q7
  go_wp2_with fail
  have C8 := hid (Chg.trans C7.out (Chg.set1' (k := q) Y (.int .u64 c.he)))
  have Q8 := hid (Blk.set HQ7.out Y (.int .u64 c.he))
  have AT8 := hid (Blk.set_other (AT6.out.gr G7.out) (a := ⟨q, Y, none⟩) (by simp; omega) (.int .u64 c.he))
  have AR8 := hid (Blk.set_other (AR6.out.gr G7.out) (a := ⟨q, Y, none⟩) (by simp; omega) (.int .u64 c.he))
  have AB8 := hid (Blk.set_other (AB6.out.gr G7.out) (a := ⟨q, Y, none⟩) (by simp; omega) (.int .u64 c.he))
  have AG8 := hid ((Gr.trans AG6.out G7.out).setCell (p := ⟨q, Y, none⟩) (by simp; omega) (.int .u64 c.he))
  clear qc qf
  generalize (w7.setCell ⟨q, Y, none⟩ (.int .u64 c.he)) = w8 at *
  refine ⟨C8.out, by kernel_rfl, ?_⟩
  have z0 := AT8.out.cell (i := 0) rfl
  have z1 := AT8.out.cell (i := 1) rfl
  have z2 := AT8.out.cell (i := 2) rfl
  have z3 := AT8.out.cell (i := 3) rfl
  have z4 := AT8.out.cell (i := 4) rfl
  have z5 := AT8.out.cell (i := 5) rfl
  have z6 := AT8.out.cell (i := 6) rfl
  have u0 := AB8.out.cell (i := 0) rfl
  have u1 := AB8.out.cell (i := 1) rfl
  have u2 := AB8.out.cell (i := 2) rfl
  have u3 := AB8.out.cell (i := 3) rfl
  have u4 := AB8.out.cell (i := 4) rfl
  have u5 := AB8.out.cell (i := 5) rfl
  have u6 := AB8.out.cell (i := 6) rfl
  have u7 := AB8.out.cell (i := 7) rfl
  have r0 := AR8.out.cell (i := 0) rfl
  have r1 := AR8.out.cell (i := 1) rfl
  have r2 := AR8.out.cell (i := 2) rfl
  have r3 := AR8.out.cell (i := 3) rfl
  have r4 := AR8.out.cell (i := 4) rfl
  have r5 := AR8.out.cell (i := 5) rfl
  have r6 := AR8.out.cell (i := 6) rfl
  have r7 := AR8.out.cell (i := 7) rfl
  have r8 := AR8.out.cell (i := 8) rfl
  have r9 := AR8.out.cell (i := 9) rfl
  have r10 := AR8.out.cell (i := 10) rfl
  have r11 := AR8.out.cell (i := 11) rfl
  have r12 := AR8.out.cell (i := 12) rfl
  have r13 := AR8.out.cell (i := 13) rfl
  have r14 := AR8.out.cell (i := 14) rfl
  have rf : ∀ i, w8.frozen? ⟨w.heap.size + 1, i, none⟩ = false := fun i => AR8.out.free i
  have rl := AR8.out.lt
  go_wp2_with fail
  have hlen : ((((List.replicate N 0).set 0 1).set X 1).set Y c.he).length = N := by simp
  refine bodyPost_ret (v := .agg #[.int .i64 c.th, .int .i64 c.sl, .int .i64 c.cp, .int .i64 c.he, .int .i64 c.ke, .int .i64 c.ev, .int .i64 c.la, .slice (some ⟨q, 0, none⟩) N N, .int .i64 0, .int .i64 0, .int .i64 0, .int .u64 0, .int .u64 0, .int .u64 0, .bool false]) (by simp [results, Try.results59, go_sem, rl, r0, r1, r2, r3, r4, r5, r6, r7, r8, r9, r10, r11, r12, r13, r14]) rfl ⟨q, by rw [hlen], ?_, ?_, by omega⟩
  · iterate 15 refine Blk.set_other ?_ (by simp; omega) _
    have Q9 := Q8.out
    rw [wordsRow_set] at Q9
    exact Q9
  · iterate 15 refine Gr.setCell ?_ (by simp) _
    exact AG8.out
end Go.Proofs.YthbkncklliiooaaH

namespace Go.Proofs.YthbkncklliiooaaH
set_option linter.unusedVariables false
set_option linter.unusedSimpArgs false
open Go.RowKit Go.Proofs.YthbkncklliiooaaW.PrintWords Go.Proofs.YthbkncklliiooaaW.PrintLast Go.Proofs.YthbkncklliiooaaW.PrintMore

/-- A row of one's own, in the print's words. -/
theorem own_row {w : World} {q base : Nat} {l : List Int} (h : Blk w q (wordsRow l) 40) (hb : base ≤ q) (hl : l.length ≤ 1000) :
    Kd.R (Kd.int .u64) 40 w base (fun _ => True) (.slice (some ⟨q, 0, none⟩) l.length l.length) l := by
  refine ⟨fun _ _ => trivial, l.map (Value.int .u64), ⟨?_, .inr ⟨q, l.length, wordsRow l, rfl, hb, h, Nat.le_refl _, ?_, ?_, ?_⟩⟩, ?_, ?_⟩
  · show (l.map (Value.int .u64)).length = l.length * 1
    simp
  · unfold maxLen; omega
  · show (wordsRow l).size = l.length * 1
    simp [wordsRow]
  · show (wordsRow l).toList.take (l.length * 1) = _
    rw [Nat.mul_one]
    unfold wordsRow
    exact List.take_of_length_le (by simp)
  · show (l.map (Value.int .u64)).length = l.length * 1
    simp
  · intro j p hj
    show ((l.map (Value.int .u64)).drop (j * 1)).take 1 = [.int .u64 p]
    obtain ⟨h1, h2⟩ := List.getElem?_eq_some_iff.1 hj
    rw [Nat.mul_one, List.drop_eq_getElem_cons (by simpa using h1)]
    simp [h2]

theorem r05_given (c : Cf) (hc : c.Ok) (w : World) : Calls Try.prog 59 #[.agg #[.int .i64 c.th, .int .i64 c.sl, .int .i64 c.cp, .int .i64 c.he, .int .i64 c.ke, .int .i64 c.ev, .int .i64 c.la]] w fun e w' => ∃ v7_ : Value,
    e = .returned (.agg #[.int .i64 c.th, .int .i64 c.sl, .int .i64 c.cp, .int .i64 c.he, .int .i64 c.ke, .int .i64 c.ev, .int .i64 c.la, v7_, .int .i64 0, .int .i64 0, .int .i64 0, .int .u64 0, .int .u64 0, .int .u64 0, .bool false]) ∧ Kd.R (Kd.int .u64) 40 w' w.heap.size (fun _ => True) v7_ c.words0 ∧ Below w.heap.size w w' := by
  refine (r05_any c hc w).mono ?_
  rintro e w' ⟨q, rfl, hq, g, hs⟩
  have hl : c.words0.length ≤ 1000 := by
    obtain ⟨b0, b1, b2, b3, b4, b5⟩ := c.bounds hc
    have := c.cells_ok hc
    unfold Cf.words0
    simp only [List.length_set, List.length_replicate]
    omega
  exact ⟨_, rfl, own_row hq hs hl, g⟩
end Go.Proofs.YthbkncklliiooaaH
