/-
  The walks of package mem.
-/
import Derived.Test.YthbkncklliiooaaHb
import Derived.Test.YthbkncklliiooaaHp
import Derived.Test.YthbkncklliiooaaReg
import Derived.Test.YthbkncklliiooaaRc
namespace Go.Proofs.YthbkncklliiooaaH
set_option linter.unusedVariables false
set_option linter.unusedSimpArgs false
open Go.RowKit

def memRow (c : Cf) (p : Nat) : Array Value := #[.int .i64 c.th, .int .i64 c.sl, .int .i64 c.cp, .int .i64 c.he, .int .i64 c.ke, .int .i64 c.ev, .int .i64 c.la, .pointer (some ⟨p, 0, none⟩)]

/-- A world's words lie in three blocks. -/
structure IsMem (w : World) (m p q : Nat) (c : Cf) (B : Bk) : Prop where
  mem : Blk w m (memRow c p) 103
  bank : IsBank w p q B
  nmp : m ≠ p
  nmq : m ≠ q

theorem IsMem.gr {w w' : World} {m p q : Nat} {c : Cf} {B : Bk} (h : IsMem w m p q c B) (g : Gr w w') : IsMem w' m p q c B := ⟨h.mem.gr g, h.bank.gr g, h.nmp, h.nmq⟩
theorem IsMem.chg {F : Nat → Prop} {w w' : World} {m p q : Nat} {c : Cf} {B : Bk} (h : IsMem w m p q c B) (g : Chg F w w') (hm : ¬ F m) (hp : ¬ F p) (hq : ¬ F q) : IsMem w' m p q c B := ⟨h.mem.chg g hm, h.bank.chg g hp hq, h.nmp, h.nmq⟩

/-- The cells of the words' own block. -/
theorem memRow_c {w : World} {m p : Nat} {c : Cf} (h : Blk w m (memRow c p) 103) : (w.cell? ⟨m, 0, none⟩ = some (.int .i64 c.th) ∧ w.cell? ⟨m, 1, none⟩ = some (.int .i64 c.sl) ∧ w.cell? ⟨m, 2, none⟩ = some (.int .i64 c.cp) ∧
    w.cell? ⟨m, 3, none⟩ = some (.int .i64 c.he) ∧ w.cell? ⟨m, 4, none⟩ = some (.int .i64 c.ke) ∧ w.cell? ⟨m, 5, none⟩ = some (.int .i64 c.ev) ∧ w.cell? ⟨m, 6, none⟩ = some (.int .i64 c.la)) ∧ w.cell? ⟨m, 7, none⟩ = some (.pointer (some ⟨p, 0, none⟩)) :=
  ⟨⟨h.cell rfl, h.cell rfl, h.cell rfl, h.cell rfl, h.cell rfl, h.cell rfl, h.cell rfl⟩, h.cell rfl⟩

set_option maxHeartbeats 1000000 in
theorem field_any (c : Cf) (h f : Int) (hh : U64 h) (w : World) : Calls Try.prog 65 #[c.val, .int .u64 h, .int .i64 f] w fun e w' => e = .returned (.int .i64 (c.cel (hI h) f)) ∧ Gr w w' := by
  have hi := index_any h hh
  have hc := cell_any c (hI h) f
  unfold Cf.val at *
  generalize hI h = i at *
  generalize c.cel i f = x at *
  have HI := hid hi
  have HC := hid hc
  clear hi hc hh
  go_enter Try.func65, Try.ntmps65
  go_wp2_with fail
  have X : Blk (w.alloc (.cells #[.int .i64 c.th, .int .i64 c.sl, .int .i64 c.cp, .int .i64 c.he, .int .i64 c.ke, .int .i64 c.ev, .int .i64 c.la] 101)) w.heap.size #[.int .i64 c.th, .int .i64 c.sl, .int .i64 c.cp, .int .i64 c.he, .int .i64 c.ke, .int .i64 c.ev, .int .i64 c.la] 101 := Blk.new _ _ _
  have G0 : Gr w (w.alloc (.cells #[.int .i64 c.th, .int .i64 c.sl, .int .i64 c.cp, .int .i64 c.he, .int .i64 c.ke, .int .i64 c.ev, .int .i64 c.la] 101)) := (Gr.refl w).alloc _
  generalize (w.alloc (.cells #[.int .i64 c.th, .int .i64 c.sl, .int .i64 c.cp, .int .i64 c.he, .int .i64 c.ke, .int .i64 c.ev, .int .i64 c.la] 101)) = W at *
  have hne : Nonempty (St (Gr W)) := ⟨⟨W, Gr.refl _⟩⟩
  have x0 : ∀ s : St (Gr W), s.val.cell? ⟨w.heap.size, 0, none⟩ = some (.int .i64 c.th) := fun s => (Blk.gr X s.ok).cell rfl
  have x1 : ∀ s : St (Gr W), s.val.cell? ⟨w.heap.size, 1, none⟩ = some (.int .i64 c.sl) := fun s => (Blk.gr X s.ok).cell rfl
  have x2 : ∀ s : St (Gr W), s.val.cell? ⟨w.heap.size, 2, none⟩ = some (.int .i64 c.cp) := fun s => (Blk.gr X s.ok).cell rfl
  have x3 : ∀ s : St (Gr W), s.val.cell? ⟨w.heap.size, 3, none⟩ = some (.int .i64 c.he) := fun s => (Blk.gr X s.ok).cell rfl
  have x4 : ∀ s : St (Gr W), s.val.cell? ⟨w.heap.size, 4, none⟩ = some (.int .i64 c.ke) := fun s => (Blk.gr X s.ok).cell rfl
  have x5 : ∀ s : St (Gr W), s.val.cell? ⟨w.heap.size, 5, none⟩ = some (.int .i64 c.ev) := fun s => (Blk.gr X s.ok).cell rfl
  have x6 : ∀ s : St (Gr W), s.val.cell? ⟨w.heap.size, 6, none⟩ = some (.int .i64 c.la) := fun s => (Blk.gr X s.ok).cell rfl
  clear X
  refine wp_region_inv (Gr W) (by kernel_rfl) (by kernel_rfl) (Gr.refl W).drew ?_
  repeat (go_big_quiet_step (first | (go_at_call 29; (with_reducible exact Calls.st_gr (HI.out _))) | (go_at_call 21; (with_reducible exact Calls.st_gr (HC.out _)))))
  refine wpQuiet_nil ?_
  rintro W2 ⟨⟨_, g2⟩, rfl⟩
  go_wp2_with fail
  go_ret
  exact ⟨rfl, G0.trans g2⟩

set_option maxHeartbeats 4000000 in
theorem mload_any (m p q : Nat) (c : Cf) (B : Bk) (h f : Int) (hh : U64 h) (w : World) (hm : IsMem w m p q c B) :
    Calls Try.prog 41 #[.pointer (some ⟨m, 0, none⟩), .int .u64 h, .int .i64 f] w (Told w p q (B.load (c.cel (hI h) f) (hPl h)) (.int .u64 (B.load (c.cel (hI h) f) (hPl h)).last.old)) := by
  have hf := field_any c h f hh
  have hp := plain_any h hh
  obtain ⟨hm1, hm2, hm3, hm4⟩ := hm
  have hmlt := hm1.lt
  unfold Cf.val at *
  generalize c.cel (hI h) f = x at *
  generalize hPl h = y at *
  have HF := hid hf
  have HP := hid hp
  have H1 := hid hm1
  have H2 := hid hm2
  clear hf hp hh hm1 hm2
  have hno : ¬ Two p q m := fun k => k.elim hm3 hm4
  go_enter Try.func41, Try.ntmps41
  go_wp2_with fail
  refine wp_region_anyC (n := 15) (Chg (Two p q) w) (by kernel_rfl) rfl ?_
  refine anyC_quiet (a1 := ?a1) (by kernel_rfl) 4 [0, 1, 2, 3, 4, 5, 6, 7, 8, 9, 11] _ _ _ (by kernel_rfl) (by kernel_rfl) (Chg.refl _ w).drew ?_ ?_
  rotate_left
  · intro w' g'
    have hne : Nonempty (St (· = w')) := ⟨⟨w', rfl⟩⟩
    have X := memRow_c (Blk.chg H1.out g' hno)
    obtain ⟨⟨z0, z1, z2, z3, z4, z5, z6⟩, z7⟩ := X
    have x0 : ∀ s : St (· = w'), s.val.cell? ⟨m, 0, none⟩ = some (.int .i64 c.th) := fun s => by rw [s.ok]; exact z0
    have x1 : ∀ s : St (· = w'), s.val.cell? ⟨m, 1, none⟩ = some (.int .i64 c.sl) := fun s => by rw [s.ok]; exact z1
    have x2 : ∀ s : St (· = w'), s.val.cell? ⟨m, 2, none⟩ = some (.int .i64 c.cp) := fun s => by rw [s.ok]; exact z2
    have x3 : ∀ s : St (· = w'), s.val.cell? ⟨m, 3, none⟩ = some (.int .i64 c.he) := fun s => by rw [s.ok]; exact z3
    have x4 : ∀ s : St (· = w'), s.val.cell? ⟨m, 4, none⟩ = some (.int .i64 c.ke) := fun s => by rw [s.ok]; exact z4
    have x5 : ∀ s : St (· = w'), s.val.cell? ⟨m, 5, none⟩ = some (.int .i64 c.ev) := fun s => by rw [s.ok]; exact z5
    have x6 : ∀ s : St (· = w'), s.val.cell? ⟨m, 6, none⟩ = some (.int .i64 c.la) := fun s => by rw [s.ok]; exact z6
    have x7 : ∀ s : St (· = w'), s.val.cell? ⟨m, 7, none⟩ = some (.pointer (some ⟨p, 0, none⟩)) := fun s => by rw [s.ok]; exact z7
    clear z0 z1 z2 z3 z4 z5 z6 z7 g'
    conv => arg 5; simp only [picked, List.filterMap_cons, List.filterMap_nil, List.getElem?_toArray, List.getElem?_cons_zero, List.getElem?_cons_succ]
    show wpQuiet _ _ _ _ [_, _, _, _, _, _, _, _, _, _, _] _
    repeat (go_big_quiet_step (fail))
    refine wpQuiet_nil ?_
    rfl
  refine anyC_alone 10 (Chg.refl _ w).drew (by kernel_rfl) (by kernel_rfl) ?_
  conv => arg 4; simp only [picked, List.filterMap_cons, List.filterMap_nil, List.getElem?_toArray, List.getElem?_cons_zero, List.getElem?_cons_succ]
  show wpList _ _ _ [_] _ _
  go_wp2_with fail
  refine (HF.out _).mono ?_
  rintro e w1 ⟨rfl, g1⟩
  go_wp2_with fail
  have C1 := hid ((Gr.trans (Gr.refl w).drew g1).chg : Chg (Two p q) w w1)
  refine ⟨C1.out, ?_⟩
  refine anyC_alone 12 C1.out (by kernel_rfl) (by kernel_rfl) ?_
  conv => arg 4; simp only [picked, List.filterMap_cons, List.filterMap_nil, List.getElem?_toArray, List.getElem?_cons_zero, List.getElem?_cons_succ]
  show wpList _ _ _ [_] _ _
  go_wp2_with fail
  refine (HP.out _).mono ?_
  rintro e w2 ⟨rfl, rfl⟩
  go_wp2_with fail
  refine ⟨C1.out, ?_⟩
  refine anyC_alone 13 C1.out (by kernel_rfl) (by kernel_rfl) ?_
  conv => arg 4; simp only [picked, List.filterMap_cons, List.filterMap_nil, List.getElem?_toArray, List.getElem?_cons_zero, List.getElem?_cons_succ]
  show wpList _ _ _ [_] _ _
  go_wp2_with fail
  refine (load_any p q B x y w1 (H2.out.gr (Gr.trans (Gr.refl w).drew g1))).mono ?_
  rintro e w3 ⟨rfl, hb3, c3⟩
  have c3 := hid c3
  go_wp2_with fail
  refine ⟨C1.out.trans c3.out, ?_⟩
  refine anyC_alone 14 (C1.out.trans c3.out) (by kernel_rfl) (by kernel_rfl) ?_
  conv => arg 4; simp only [picked, List.filterMap_cons, List.filterMap_nil, List.getElem?_toArray, List.getElem?_cons_zero, List.getElem?_cons_succ]
  show wpList _ _ _ [_] _ _
  go_wp2_with fail
  refine ⟨C1.out.trans c3.out, by kernel_rfl, ?_⟩
  go_wp2_with fail
  go_ret
  exact ⟨rfl, hb3, C1.out.trans c3.out⟩
set_option maxHeartbeats 4000000 in
theorem mstore_any (m p q : Nat) (c : Cf) (B : Bk) (h f v : Int) (hh : U64 h) (w : World) (hm : IsMem w m p q c B) :
    Calls Try.prog 42 #[.pointer (some ⟨m, 0, none⟩), .int .u64 h, .int .i64 f, .int .u64 v] w (Told w p q (B.store (c.cel (hI h) f) (hPl h) v) (.tuple #[])) := by
  have hf := field_any c h f hh
  have hp := plain_any h hh
  obtain ⟨hm1, hm2, hm3, hm4⟩ := hm
  have hmlt := hm1.lt
  unfold Cf.val at *
  generalize c.cel (hI h) f = x at *
  generalize hPl h = y at *
  have HF := hid hf
  have HP := hid hp
  have H1 := hid hm1
  have H2 := hid hm2
  clear hf hp hh hm1 hm2
  have hno : ¬ Two p q m := fun k => k.elim hm3 hm4
  go_enter Try.func42, Try.ntmps42
  go_wp2_with fail
  refine wp_region_anyC (n := 15) (Chg (Two p q) w) (by kernel_rfl) rfl ?_
  refine anyC_quiet (a1 := ?a1) (by kernel_rfl) 3 [0, 1, 2, 3, 4, 5, 6, 7, 8, 9, 11, 13] _ _ _ (by kernel_rfl) (by kernel_rfl) (Chg.refl _ w).drew ?_ ?_
  rotate_left
  · intro w' g'
    have hne : Nonempty (St (· = w')) := ⟨⟨w', rfl⟩⟩
    have X := memRow_c (Blk.chg H1.out g' hno)
    obtain ⟨⟨z0, z1, z2, z3, z4, z5, z6⟩, z7⟩ := X
    have x0 : ∀ s : St (· = w'), s.val.cell? ⟨m, 0, none⟩ = some (.int .i64 c.th) := fun s => by rw [s.ok]; exact z0
    have x1 : ∀ s : St (· = w'), s.val.cell? ⟨m, 1, none⟩ = some (.int .i64 c.sl) := fun s => by rw [s.ok]; exact z1
    have x2 : ∀ s : St (· = w'), s.val.cell? ⟨m, 2, none⟩ = some (.int .i64 c.cp) := fun s => by rw [s.ok]; exact z2
    have x3 : ∀ s : St (· = w'), s.val.cell? ⟨m, 3, none⟩ = some (.int .i64 c.he) := fun s => by rw [s.ok]; exact z3
    have x4 : ∀ s : St (· = w'), s.val.cell? ⟨m, 4, none⟩ = some (.int .i64 c.ke) := fun s => by rw [s.ok]; exact z4
    have x5 : ∀ s : St (· = w'), s.val.cell? ⟨m, 5, none⟩ = some (.int .i64 c.ev) := fun s => by rw [s.ok]; exact z5
    have x6 : ∀ s : St (· = w'), s.val.cell? ⟨m, 6, none⟩ = some (.int .i64 c.la) := fun s => by rw [s.ok]; exact z6
    have x7 : ∀ s : St (· = w'), s.val.cell? ⟨m, 7, none⟩ = some (.pointer (some ⟨p, 0, none⟩)) := fun s => by rw [s.ok]; exact z7
    clear z0 z1 z2 z3 z4 z5 z6 z7 g'
    conv => arg 5; simp only [picked, List.filterMap_cons, List.filterMap_nil, List.getElem?_toArray, List.getElem?_cons_zero, List.getElem?_cons_succ]
    show wpQuiet _ _ _ _ [_, _, _, _, _, _, _, _, _, _, _, _] _
    repeat (go_big_quiet_step (fail))
    refine wpQuiet_nil ?_
    rfl
  refine anyC_alone 10 (Chg.refl _ w).drew (by kernel_rfl) (by kernel_rfl) ?_
  conv => arg 4; simp only [picked, List.filterMap_cons, List.filterMap_nil, List.getElem?_toArray, List.getElem?_cons_zero, List.getElem?_cons_succ]
  show wpList _ _ _ [_] _ _
  go_wp2_with fail
  refine (HF.out _).mono ?_
  rintro e w1 ⟨rfl, g1⟩
  go_wp2_with fail
  have C1 := hid ((Gr.trans (Gr.refl w).drew g1).chg : Chg (Two p q) w w1)
  refine ⟨C1.out, ?_⟩
  refine anyC_alone 12 C1.out (by kernel_rfl) (by kernel_rfl) ?_
  conv => arg 4; simp only [picked, List.filterMap_cons, List.filterMap_nil, List.getElem?_toArray, List.getElem?_cons_zero, List.getElem?_cons_succ]
  show wpList _ _ _ [_] _ _
  go_wp2_with fail
  refine (HP.out _).mono ?_
  rintro e w2 ⟨rfl, rfl⟩
  go_wp2_with fail
  refine ⟨C1.out, ?_⟩
  refine anyC_alone 14 C1.out (by kernel_rfl) (by kernel_rfl) ?_
  conv => arg 4; simp only [picked, List.filterMap_cons, List.filterMap_nil, List.getElem?_toArray, List.getElem?_cons_zero, List.getElem?_cons_succ]
  show wpList _ _ _ [_] _ _
  go_wp2_with fail
  refine (store_any p q B x y v w1 (H2.out.gr (Gr.trans (Gr.refl w).drew g1))).mono ?_
  rintro e w3 ⟨rfl, hb3, c3⟩
  have c3 := hid c3
  go_wp2_with fail
  refine ⟨C1.out.trans c3.out, by kernel_rfl, ?_⟩
  go_wp2_with fail
  go_end0
  exact ⟨rfl, hb3, C1.out.trans c3.out⟩
set_option maxHeartbeats 4000000 in
theorem mswap_any (m p q : Nat) (c : Cf) (B : Bk) (h f old v : Int) (hh : U64 h) (w : World) (hm : IsMem w m p q c B) :
    Calls Try.prog 94 #[.pointer (some ⟨m, 0, none⟩), .int .u64 h, .int .i64 f, .int .u64 old, .int .u64 v] w (Told w p q (B.swap (c.cel (hI h) f) (hPl h) old v) (.bool (B.swap (c.cel (hI h) f) (hPl h) old v).last.done)) := by
  have hf := field_any c h f hh
  have hp := plain_any h hh
  obtain ⟨hm1, hm2, hm3, hm4⟩ := hm
  have hmlt := hm1.lt
  unfold Cf.val at *
  generalize c.cel (hI h) f = x at *
  generalize hPl h = y at *
  have HF := hid hf
  have HP := hid hp
  have H1 := hid hm1
  have H2 := hid hm2
  clear hf hp hh hm1 hm2
  have hno : ¬ Two p q m := fun k => k.elim hm3 hm4
  go_enter Try.func94, Try.ntmps94
  go_wp2_with fail
  refine wp_region_anyC (n := 17) (Chg (Two p q) w) (by kernel_rfl) rfl ?_
  refine anyC_quiet (a1 := ?a1) (by kernel_rfl) 4 [0, 1, 2, 3, 4, 5, 6, 7, 8, 9, 11, 13, 14] _ _ _ (by kernel_rfl) (by kernel_rfl) (Chg.refl _ w).drew ?_ ?_
  rotate_left
  · intro w' g'
    have hne : Nonempty (St (· = w')) := ⟨⟨w', rfl⟩⟩
    have X := memRow_c (Blk.chg H1.out g' hno)
    obtain ⟨⟨z0, z1, z2, z3, z4, z5, z6⟩, z7⟩ := X
    have x0 : ∀ s : St (· = w'), s.val.cell? ⟨m, 0, none⟩ = some (.int .i64 c.th) := fun s => by rw [s.ok]; exact z0
    have x1 : ∀ s : St (· = w'), s.val.cell? ⟨m, 1, none⟩ = some (.int .i64 c.sl) := fun s => by rw [s.ok]; exact z1
    have x2 : ∀ s : St (· = w'), s.val.cell? ⟨m, 2, none⟩ = some (.int .i64 c.cp) := fun s => by rw [s.ok]; exact z2
    have x3 : ∀ s : St (· = w'), s.val.cell? ⟨m, 3, none⟩ = some (.int .i64 c.he) := fun s => by rw [s.ok]; exact z3
    have x4 : ∀ s : St (· = w'), s.val.cell? ⟨m, 4, none⟩ = some (.int .i64 c.ke) := fun s => by rw [s.ok]; exact z4
    have x5 : ∀ s : St (· = w'), s.val.cell? ⟨m, 5, none⟩ = some (.int .i64 c.ev) := fun s => by rw [s.ok]; exact z5
    have x6 : ∀ s : St (· = w'), s.val.cell? ⟨m, 6, none⟩ = some (.int .i64 c.la) := fun s => by rw [s.ok]; exact z6
    have x7 : ∀ s : St (· = w'), s.val.cell? ⟨m, 7, none⟩ = some (.pointer (some ⟨p, 0, none⟩)) := fun s => by rw [s.ok]; exact z7
    clear z0 z1 z2 z3 z4 z5 z6 z7 g'
    conv => arg 5; simp only [picked, List.filterMap_cons, List.filterMap_nil, List.getElem?_toArray, List.getElem?_cons_zero, List.getElem?_cons_succ]
    show wpQuiet _ _ _ _ [_, _, _, _, _, _, _, _, _, _, _, _, _] _
    repeat (go_big_quiet_step (fail))
    refine wpQuiet_nil ?_
    rfl
  refine anyC_alone 10 (Chg.refl _ w).drew (by kernel_rfl) (by kernel_rfl) ?_
  conv => arg 4; simp only [picked, List.filterMap_cons, List.filterMap_nil, List.getElem?_toArray, List.getElem?_cons_zero, List.getElem?_cons_succ]
  show wpList _ _ _ [_] _ _
  go_wp2_with fail
  refine (HF.out _).mono ?_
  rintro e w1 ⟨rfl, g1⟩
  go_wp2_with fail
  have C1 := hid ((Gr.trans (Gr.refl w).drew g1).chg : Chg (Two p q) w w1)
  refine ⟨C1.out, ?_⟩
  refine anyC_alone 12 C1.out (by kernel_rfl) (by kernel_rfl) ?_
  conv => arg 4; simp only [picked, List.filterMap_cons, List.filterMap_nil, List.getElem?_toArray, List.getElem?_cons_zero, List.getElem?_cons_succ]
  show wpList _ _ _ [_] _ _
  go_wp2_with fail
  refine (HP.out _).mono ?_
  rintro e w2 ⟨rfl, rfl⟩
  go_wp2_with fail
  refine ⟨C1.out, ?_⟩
  refine anyC_alone 15 C1.out (by kernel_rfl) (by kernel_rfl) ?_
  conv => arg 4; simp only [picked, List.filterMap_cons, List.filterMap_nil, List.getElem?_toArray, List.getElem?_cons_zero, List.getElem?_cons_succ]
  show wpList _ _ _ [_] _ _
  go_wp2_with fail
  refine (swap_any p q B x y old v w1 (H2.out.gr (Gr.trans (Gr.refl w).drew g1))).mono ?_
  rintro e w3 ⟨rfl, hb3, c3⟩
  have c3 := hid c3
  go_wp2_with fail
  refine ⟨C1.out.trans c3.out, ?_⟩
  refine anyC_alone 16 (C1.out.trans c3.out) (by kernel_rfl) (by kernel_rfl) ?_
  conv => arg 4; simp only [picked, List.filterMap_cons, List.filterMap_nil, List.getElem?_toArray, List.getElem?_cons_zero, List.getElem?_cons_succ]
  show wpList _ _ _ [_] _ _
  go_wp2_with fail
  refine ⟨C1.out.trans c3.out, by kernel_rfl, ?_⟩
  go_wp2_with fail
  go_ret
  exact ⟨rfl, hb3, C1.out.trans c3.out⟩
set_option maxHeartbeats 1000000 in
theorem mbank_any (m p q : Nat) (c : Cf) (B : Bk) (w : World) (hm : IsMem w m p q c B) :
    Calls Try.prog 33 #[.pointer (some ⟨m, 0, none⟩)] w fun e w' => e = .returned (.pointer (some ⟨p, 0, none⟩)) ∧ w = w' := by
  obtain ⟨⟨x0, x1, x2, x3, x4, x5, x6⟩, x7⟩ := memRow_c hm.mem
  have hlt := hm.mem.lt
  clear hm
  go_enter Try.func33, Try.ntmps33
  go_wp2
  go_ret
  exact ⟨rfl, rfl⟩

set_option maxHeartbeats 1000000 in
theorem config_any (c : Cf) (w : World) : Calls Try.prog 76 #[c.val] w fun e w' => e = .returned c.val ∧ Gr w w' := by
  unfold Cf.val
  go_enter Try.func76, Try.ntmps76
  go_wp2
  exact bodyPost_ret (v := .agg #[.int .i64 c.th, .int .i64 c.sl, .int .i64 c.cp, .int .i64 c.he, .int .i64 c.ke, .int .i64 c.ev, .int .i64 c.la]) (by simp [results, Try.results76, go_sem]) rfl ⟨rfl, by first | exact ((Gr.refl _).alloc _).alloc _ | exact (((Gr.refl _).alloc _).alloc _).setCell (by simp) _⟩
end Go.Proofs.YthbkncklliiooaaH
