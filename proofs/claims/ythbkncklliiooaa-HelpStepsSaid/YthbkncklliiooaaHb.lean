/-
  The walks of package bank.
-/
import Derived.Test.YthbkncklliiooaaProg
import Derived.Test.YthbkncklliiooaaHeap
import Derived.WalkSpells
import Derived.WalkLawsBesides
import Derived.Outline
import Derived.Deep.OwnRows
import Derived.Laws.CopyOwn
namespace Go.Proofs.YthbkncklliiooaaH
set_option linter.unusedVariables false
set_option linter.unusedSimpArgs false
open Go.RowKit

/-- An access. -/
structure Acc where
  kind : Int
  cell : Int
  via : Int
  old : Int
  new : Int
  done : Bool

def Acc.zero : Acc := ⟨0, 0, 0, 0, 0, false⟩
def Acc.val (a : Acc) : Value := .agg #[.int .i64 a.kind, .int .i64 a.cell, .int .u64 a.via, .int .u64 a.old, .int .u64 a.new, .bool a.done]

/-- A bank. -/
structure Bk where
  cells : List Int
  count : Int
  last : Acc

def bkRow (q : Nat) (B : Bk) : Array Value :=
  #[.slice (some ⟨q, 0, none⟩) B.cells.length B.cells.length, .int .i64 B.count, .int .i64 B.last.kind, .int .i64 B.last.cell, .int .u64 B.last.via, .int .u64 B.last.old, .int .u64 B.last.new, .bool B.last.done]

/-- A bank lies in two blocks. -/
structure IsBank (w : World) (p q : Nat) (B : Bk) : Prop where
  head : Blk w p (bkRow q B) 106
  row : Blk w q (wordsRow B.cells) 40
  ne : p ≠ q

/-- A row of words that are 0. -/
def zrow (n : Nat) : Array Value := wordsRow (List.replicate n 0)

theorem zero_row (n : Nat) : madeCells #[.int .u64 0] n = zrow n := by
  unfold madeCells zrow wordsRow
  apply Array.ext
  · simp
  · intro i h1 h2
    simp [Nat.mod_one]

theorem infoW40 : (Try.prog.info? 40).map (fun i => (i.zero, i.size, i.bytes)) = some (some (.int .u64 0), 1, 8) := by kernel_rfl

/-- A bank of some words, new. -/
def MadeBank (w : World) (l : List Int) (e : Ending) (w' : World) : Prop :=
  ∃ p q : Nat, e = .returned (.pointer (some ⟨p, 0, none⟩)) ∧ IsBank w' p q ⟨l, 0, Acc.zero⟩ ∧ Gr w w' ∧ w.heap.size ≤ p ∧ w.heap.size ≤ q

theorem run_make_big (n : Nat) (h : n ≤ 17592186044416) (w : World) : (Instr.makeSlice 39 (.int .i64 (n : Int)) (.int .i64 (n : Int))).run Try.prog w = .ok (.slice (some ⟨w.heap.size, 0, none⟩) n n) (w.alloc (.cells (zrow n) 40)) := by
  have h0 := run_make_row' (P := Try.prog) 39 40 (.int .u64 0) 8 Try.underlying39 infoW40 rfl .i64 .i64 n (by omega) (by omega) w
  rw [zero_row] at h0
  exact h0

theorem zrow_size (n : Nat) : (zrow n).size = n := by simp [zrow, wordsRow]

set_option maxHeartbeats 400000 in
theorem of_any (v : Value) (l : List Int) (w : World) (hv : Words w v l) (hl : l.length ≤ 17592186044416) :
    Calls Try.prog 58 #[v] w (MadeBank w l) := by
  have hw := hid hv
  have hs40 : (Try.prog.info? 40).map (·.size) = some 1 := by kernel_rfl
  rcases hv with ⟨rfl, rfl⟩ | ⟨a, cap, rfl, hc, hcell⟩
  · have hmk : ∀ w : World, (Instr.makeSlice 39 (.int .i64 0) (.int .i64 0)).run Try.prog w = .ok (.slice (some ⟨w.heap.size, 0, none⟩) 0 0) (w.alloc (.cells (zrow 0) 40)) := run_make_big 0 (by omega)
    go_enter Try.func58, Try.ntmps58
    go_wp2_with (with_reducible refine wpList_copy_words rfl (.tmp 12) (.tmp 13) 39 39 rfl 40 Try.underlying39 hs40 w.heap.size [] _ ?c2 rfl rfl (zrow 0) 40 ?c3 (zrow_size _) ?_)
    case c2 => exact hw.out.gr (((Gr.refl w).alloc _).alloc _)
    case c3 => exact (Blk.new _ _ _).alloc _
    intro w1 hb hc
    go_wp2
    go_ret
    exact ⟨w.heap.size + 1, w.heap.size, rfl, ⟨Blk.chg (Blk.new' (by simp)) hc (by simp), hb.out, by simp⟩, ((((Gr.refl w).alloc _).alloc _).step hc (by simp)), by omega, by omega⟩
  · have hmk := run_make_big l.length hl
    clear hcell hc
    go_enter Try.func58, Try.ntmps58
    go_wp2_with (with_reducible refine wpList_copy_words rfl (.tmp 12) (.tmp 13) 39 39 rfl 40 Try.underlying39 hs40 w.heap.size l _ ?c2 rfl rfl (zrow l.length) 40 ?c3 (zrow_size _) ?_)
    case c2 => exact hw.out.gr (((Gr.refl w).alloc _).alloc _)
    case c3 => exact (Blk.new _ _ _).alloc _
    intro w1 hb hc
    go_wp2
    go_ret
    exact ⟨w.heap.size + 1, w.heap.size, rfl, ⟨Blk.chg (Blk.new' (by simp)) hc (by simp), hb.out, by simp⟩, ((((Gr.refl w).alloc _).alloc _).step hc (by simp)), by omega, by omega⟩

section
variable {w : World} {p q : Nat} {B : Bk}
theorem IsBank.c0 (h : IsBank w p q B) : w.cell? ⟨p, 0, none⟩ = some (.slice (some ⟨q, 0, none⟩) B.cells.length B.cells.length) := h.head.cell rfl
theorem IsBank.c1 (h : IsBank w p q B) : w.cell? ⟨p, 1, none⟩ = some (.int .i64 B.count) := h.head.cell rfl
theorem IsBank.c2 (h : IsBank w p q B) : w.cell? ⟨p, 2, none⟩ = some (.int .i64 B.last.kind) := h.head.cell rfl
theorem IsBank.c3 (h : IsBank w p q B) : w.cell? ⟨p, 3, none⟩ = some (.int .i64 B.last.cell) := h.head.cell rfl
theorem IsBank.c4 (h : IsBank w p q B) : w.cell? ⟨p, 4, none⟩ = some (.int .u64 B.last.via) := h.head.cell rfl
theorem IsBank.c5 (h : IsBank w p q B) : w.cell? ⟨p, 5, none⟩ = some (.int .u64 B.last.old) := h.head.cell rfl
theorem IsBank.c6 (h : IsBank w p q B) : w.cell? ⟨p, 6, none⟩ = some (.int .u64 B.last.new) := h.head.cell rfl
theorem IsBank.c7 (h : IsBank w p q B) : w.cell? ⟨p, 7, none⟩ = some (.bool B.last.done) := h.head.cell rfl
theorem IsBank.word (h : IsBank w p q B) {i : Nat} (hi : i < B.cells.length) : w.cell? ⟨q, i, none⟩ = some (.int .u64 (B.cells.getD i 0)) := h.row.cell (by simp [wordsRow_get, List.getD, hi])
theorem IsBank.words (h : IsBank w p q B) : Words w (.slice (some ⟨q, 0, none⟩) B.cells.length B.cells.length) B.cells :=
  .inr ⟨⟨q, 0, none⟩, _, rfl, Nat.le_refl _, fun i hi => by
    have h1 := h.word hi
    by_cases h0 : i = 0
    · subst h0; simpa [Addr.add] using h1
    · simpa [Addr.add, h0] using h1⟩
theorem IsBank.gr {w' : World} (h : IsBank w p q B) (g : Gr w w') : IsBank w' p q B := ⟨h.head.gr g, h.row.gr g, h.ne⟩
theorem IsBank.chg {F : Nat → Prop} {w' : World} (h : IsBank w p q B) (g : Chg F w w') (hp : ¬ F p) (hq : ¬ F q) : IsBank w' p q B := ⟨h.head.chg g hp, h.row.chg g hq, h.ne⟩
end

/-- What all cells are, in a new slice. -/
def MadeWords (w : World) (l : List Int) (e : Ending) (w' : World) : Prop :=
  e = .returned (.slice (some ⟨w.heap.size, 0, none⟩) l.length l.length) ∧ Blk w' w.heap.size (wordsRow l) 40 ∧ Gr w w'

set_option maxHeartbeats 400000 in
theorem cells_any (p q : Nat) (B : Bk) (w : World) (hb : IsBank w p q B) (hl : B.cells.length ≤ 17592186044416) :
    Calls Try.prog 34 #[.pointer (some ⟨p, 0, none⟩)] w (MadeWords w B.cells) := by
  have hs40 : (Try.prog.info? 40).map (·.size) = some 1 := by kernel_rfl
  have c0 := hb.c0
  have hlt := hb.head.lt
  have HB := hid hb
  have hmk := run_make_big B.cells.length hl
  clear hb
  go_enter Try.func34, Try.ntmps34
  go_wp2_with (with_reducible refine wpList_copy_words rfl (.tmp 10) (.tmp 14) 39 39 rfl 40 Try.underlying39 hs40 w.heap.size B.cells _ ?c2 rfl rfl (zrow B.cells.length) 40 ?c3 (zrow_size _) ?_)
  case c2 => exact HB.out.words.gr ((Gr.refl w).alloc _)
  case c3 => exact Blk.new _ _ _
  intro w1 hb hc
  go_wp2
  go_ret
  exact ⟨rfl, hb.out, ((Gr.refl w).alloc _).step hc (by simp)⟩

set_option maxHeartbeats 400000 in
theorem count_any (p q : Nat) (B : Bk) (w : World) (hb : IsBank w p q B) :
    Calls Try.prog 48 #[.pointer (some ⟨p, 0, none⟩)] w fun e w' => e = .returned (.int .i64 B.count) ∧ w = w' := by
  have c1 := hb.c1
  clear hb
  go_enter Try.func48, Try.ntmps48
  go_wp2
  go_ret
  exact ⟨rfl, rfl⟩

set_option maxHeartbeats 400000 in
theorem last_any (p q : Nat) (B : Bk) (w : World) (hb : IsBank w p q B) :
    Calls Try.prog 73 #[.pointer (some ⟨p, 0, none⟩)] w fun e w' => e = .returned B.last.val ∧ Gr w w' := by
  have c2 := hb.c2
  have c3 := hb.c3
  have c4 := hb.c4
  have c5 := hb.c5
  have c6 := hb.c6
  have c7 := hb.c7
  have hlt := hb.head.lt
  clear hb
  go_enter Try.func73, Try.ntmps73
  go_wp2
  exact bodyPost_ret (v := B.last.val) (by simp [results, Try.results73, go_sem, Acc.val]) rfl ⟨rfl, (Gr.refl _).alloc _⟩


theorem ret_pair {a b : Int} {c d : Bool} (h : a = b) (k : c = d) : Ending.returned (.tuple #[.int .u64 a, .bool c]) = .returned (.tuple #[.int .u64 b, .bool d]) := by rw [h, k]

/-- What a swap lets a cell have, and whether it is done. -/
def swapTo (old v had : Int) : Int := if had = old then v else had
def swapIs (old had : Int) : Bool := decide (had = old)

set_option maxHeartbeats 400000 in
theorem swap_becomes (old v had : Int) (x y : Nat) (w : World) (hx : w.cell? ⟨x, 0, none⟩ = some (.int .u64 old)) (hy : w.cell? ⟨y, 0, none⟩ = some (.int .u64 v)) :
    Calls Try.prog 96 #[.int .u64 had, .pointer (some ⟨x, 0, none⟩), .pointer (some ⟨y, 0, none⟩)] w fun e w' =>
      e = .returned (.tuple #[.int .u64 (swapTo old v had), .bool (swapIs old had)]) ∧ w = w' := by
  by_cases h : had = old
  · have e1 : swapTo old v had = v := if_pos h
    have e2 : swapIs old had = true := by simpa [swapIs] using h
    rw [e1, e2]
    have h' : (had != old) = false := by simpa using h
    clear h e1 e2
    go_enter Try.func96, Try.ntmps96
    go_wp2
    go_ret2
    exact ⟨rfl, rfl⟩
  · have e1 : swapTo old v had = had := if_neg h
    have e2 : swapIs old had = false := by simpa [swapIs] using h
    rw [e1, e2]
    have h' : (had != old) = true := by simpa using h
    clear h e1 e2
    go_enter Try.func96, Try.ntmps96
    go_wp2
    go_ret2
    exact ⟨rfl, rfl⟩

set_option maxHeartbeats 400000 in
theorem load_becomes (had : Int) (w : World) : Calls Try.prog 82 #[.int .u64 had] w fun e w' => e = .returned (.tuple #[.int .u64 had, .bool true]) ∧ w = w' := by
  go_enter Try.func82, Try.ntmps82
  go_wp2
  go_ret2
  exact ⟨rfl, rfl⟩

set_option maxHeartbeats 400000 in
theorem store_becomes (had v : Int) (y : Nat) (w : World) (hy : w.cell? ⟨y, 0, none⟩ = some (.int .u64 v)) : Calls Try.prog 83 #[.int .u64 had, .pointer (some ⟨y, 0, none⟩)] w fun e w' => e = .returned (.tuple #[.int .u64 v, .bool true]) ∧ w = w' := by
  go_enter Try.func83, Try.ntmps83
  go_wp2
  go_ret2
  exact ⟨rfl, rfl⟩

set_option maxHeartbeats 400000 in
/-- A bank behind an access to a cell that there is. -/
def Bk.done (B : Bk) (kind : Int) (n : Nat) (via had v : Int) (is : Bool) : Bk := ⟨B.cells.set n v, wrap64 (B.count + 1), ⟨kind, n, via, had, v, is⟩⟩
/-- A bank behind an access to no cell. -/
def Bk.none (B : Bk) (kind cell via : Int) : Bk := ⟨B.cells, wrap64 (B.count + 1), ⟨kind, cell, via, 0, 0, false⟩⟩

def Two (p q : Nat) (k : Nat) : Prop := k = p ∨ k = q

/-- What an access leaves. -/
def Accessed (w : World) (p q : Nat) (B : Bk) (e : Ending) (w' : World) : Prop := e = .returned B.last.val ∧ IsBank w' p q B ∧ Chg (Two p q) w w'

theorem row_done (q : Nat) (B : Bk) (kind : Int) (n : Nat) (via had v : Int) (is : Bool) :
    bkRow q (B.done kind n via had v is) = ((((((((bkRow q B).setIfInBounds 1 (.int .i64 (wrap64 (B.count + 1)))).setIfInBounds 2 (.int .i64 kind)).setIfInBounds 3 (.int .i64 n)).setIfInBounds 4 (.int .u64 via)).setIfInBounds 5 (.int .u64 had)).setIfInBounds 6 (.int .u64 v)).setIfInBounds 7 (.bool is)) := by
  simp [bkRow, Bk.done]

theorem row_none (q : Nat) (B : Bk) (kind cell via : Int) :
    bkRow q (B.none kind cell via) = ((((((((bkRow q B).setIfInBounds 1 (.int .i64 (wrap64 (B.count + 1)))).setIfInBounds 2 (.int .i64 kind)).setIfInBounds 3 (.int .i64 cell)).setIfInBounds 4 (.int .u64 via)).setIfInBounds 5 (.int .u64 0)).setIfInBounds 6 (.int .u64 0)).setIfInBounds 7 (.bool false)) := by
  simp [bkRow, Bk.none]

set_option maxHeartbeats 1000000 in
theorem access_swap (p q : Nat) (B : Bk) (kind via had : Int) (n : Nat) (old v : Int) (x y : Nat) (w : World) (hb : IsBank w p q B) (hn : n < B.cells.length) (hw : w.cell? ⟨q, n, none⟩ = some (.int .u64 had)) (hx : w.cell? ⟨x, 0, none⟩ = some (.int .u64 old)) (hy : w.cell? ⟨y, 0, none⟩ = some (.int .u64 v)) :
    Calls Try.prog 81 #[.pointer (some ⟨p, 0, none⟩), .agg #[.int .i64 kind, .int .i64 n, .int .u64 via, .int .u64 0, .int .u64 0, .bool false], .func (Fn.func 96) #[] #[.pointer (some ⟨x, 0, none⟩), .pointer (some ⟨y, 0, none⟩)]] w (Accessed w p q (B.done kind n via had (swapTo old v had) (swapIs old had))) := by
  have c0 := hb.c0
  have c1 := hb.c1
  have c2 := hb.c2
  have c3 := hb.c3
  have c4 := hb.c4
  have c5 := hb.c5
  have c6 := hb.c6
  have c7 := hb.c7
  have hlt := hb.head.lt
  have hn' : (n : Int) < B.cells.length := by omega
  have hn0 : 0 ≤ (n : Int) := by omega
  have hlq := hb.row.lt
  have hne := hb.ne
  have hfp := fun i => hb.head.free i
  have hfq := fun i => hb.row.free i
  have HB := hid hb
  clear hb
  go_enter Try.func81, Try.ntmps81
  go_wp2
  go_quiet (fail)
  go_wp2
  go_quiet (fail)
  go_wp2_with fail
  refine (swap_becomes old v had x y _ (by exact Gr.cell ((((Gr.refl w).alloc _).alloc _).drewN _) hx) (by exact Gr.cell ((((Gr.refl w).alloc _).alloc _).drewN _) hy)).mono ?_
  rintro e w1 ⟨rfl, rfl⟩
  go_wp2_with fail
  go_region
  go_wp2
  refine bodyPost_ret (v := (B.done kind n via had (swapTo old v had) (swapIs old had)).last.val) (by simp [results, Try.results81, go_sem, Acc.val, Bk.done]) rfl ⟨rfl, ⟨?_, ?_, hne⟩, ?_⟩
  · rw [row_done]
    iterate 6 refine Blk.set_other ?_ (by simp; omega) _
    iterate 7 refine Blk.set ?_ _ _
    iterate 3 refine Blk.set_other ?_ (by simp; omega) _
    refine Blk.set_other ?_ (by simpa using hne) _
    exact ((HB.out.head.alloc _).alloc _).drewN _
  · show Blk _ _ (wordsRow (B.cells.set n (swapTo old v had))) _
    rw [← wordsRow_set]
    iterate 6 refine Blk.set_other ?_ (by simp; omega) _
    iterate 7 refine Blk.set_other ?_ (by simpa using hne.symm) _
    iterate 3 refine Blk.set_other ?_ (by simp; omega) _
    refine Blk.set ?_ _ _
    exact ((HB.out.row.alloc _).alloc _).drewN _
  · iterate 6 refine Chg.setCell ?_ (.inr (by simp)) _
    iterate 7 refine Chg.setCell ?_ (.inl (.inl rfl)) _
    iterate 3 refine Chg.setCell ?_ (.inr (by simp)) _
    refine Chg.setCell ?_ (.inl (.inr rfl)) _
    exact (((Chg.refl _ _).alloc _).alloc _).drewN _

set_option maxHeartbeats 1000000 in
set_option maxHeartbeats 1000000 in
theorem access_load (p q : Nat) (B : Bk) (kind via had : Int) (n : Nat)  (w : World) (hb : IsBank w p q B) (hn : n < B.cells.length) (hw : w.cell? ⟨q, n, none⟩ = some (.int .u64 had))  :
    Calls Try.prog 81 #[.pointer (some ⟨p, 0, none⟩), .agg #[.int .i64 kind, .int .i64 n, .int .u64 via, .int .u64 0, .int .u64 0, .bool false], .func (Fn.func 82) #[] #[]] w (Accessed w p q (B.done kind n via had had true)) := by
  have c0 := hb.c0
  have c1 := hb.c1
  have c2 := hb.c2
  have c3 := hb.c3
  have c4 := hb.c4
  have c5 := hb.c5
  have c6 := hb.c6
  have c7 := hb.c7
  have hlt := hb.head.lt
  have hn' : (n : Int) < B.cells.length := by omega
  have hn0 : 0 ≤ (n : Int) := by omega
  have hlq := hb.row.lt
  have hne := hb.ne
  have hfp := fun i => hb.head.free i
  have hfq := fun i => hb.row.free i
  have HB := hid hb
  clear hb
  go_enter Try.func81, Try.ntmps81
  go_wp2
  go_quiet (fail)
  go_wp2
  go_quiet (fail)
  go_wp2_with fail
  refine (load_becomes had _).mono ?_
  rintro e w1 ⟨rfl, rfl⟩
  go_wp2_with fail
  go_region
  go_wp2
  refine bodyPost_ret (v := (B.done kind n via had had true).last.val) (by simp [results, Try.results81, go_sem, Acc.val, Bk.done]) rfl ⟨rfl, ⟨?_, ?_, hne⟩, ?_⟩
  · rw [row_done]
    iterate 6 refine Blk.set_other ?_ (by simp; omega) _
    iterate 7 refine Blk.set ?_ _ _
    iterate 3 refine Blk.set_other ?_ (by simp; omega) _
    refine Blk.set_other ?_ (by simpa using hne) _
    exact ((HB.out.head.alloc _).alloc _).drewN _
  · show Blk _ _ (wordsRow (B.cells.set n had)) _
    rw [← wordsRow_set]
    iterate 6 refine Blk.set_other ?_ (by simp; omega) _
    iterate 7 refine Blk.set_other ?_ (by simpa using hne.symm) _
    iterate 3 refine Blk.set_other ?_ (by simp; omega) _
    refine Blk.set ?_ _ _
    exact ((HB.out.row.alloc _).alloc _).drewN _
  · iterate 6 refine Chg.setCell ?_ (.inr (by simp)) _
    iterate 7 refine Chg.setCell ?_ (.inl (.inl rfl)) _
    iterate 3 refine Chg.setCell ?_ (.inr (by simp)) _
    refine Chg.setCell ?_ (.inl (.inr rfl)) _
    exact (((Chg.refl _ _).alloc _).alloc _).drewN _

set_option maxHeartbeats 1000000 in
theorem access_store (p q : Nat) (B : Bk) (kind via had : Int) (n : Nat) (v : Int) (y : Nat) (w : World) (hb : IsBank w p q B) (hn : n < B.cells.length) (hw : w.cell? ⟨q, n, none⟩ = some (.int .u64 had)) (hy : w.cell? ⟨y, 0, none⟩ = some (.int .u64 v)) :
    Calls Try.prog 81 #[.pointer (some ⟨p, 0, none⟩), .agg #[.int .i64 kind, .int .i64 n, .int .u64 via, .int .u64 0, .int .u64 0, .bool false], .func (Fn.func 83) #[] #[.pointer (some ⟨y, 0, none⟩)]] w (Accessed w p q (B.done kind n via had v true)) := by
  have c0 := hb.c0
  have c1 := hb.c1
  have c2 := hb.c2
  have c3 := hb.c3
  have c4 := hb.c4
  have c5 := hb.c5
  have c6 := hb.c6
  have c7 := hb.c7
  have hlt := hb.head.lt
  have hn' : (n : Int) < B.cells.length := by omega
  have hn0 : 0 ≤ (n : Int) := by omega
  have hlq := hb.row.lt
  have hne := hb.ne
  have hfp := fun i => hb.head.free i
  have hfq := fun i => hb.row.free i
  have HB := hid hb
  clear hb
  go_enter Try.func81, Try.ntmps81
  go_wp2
  go_quiet (fail)
  go_wp2
  go_quiet (fail)
  go_wp2_with fail
  refine (store_becomes had v y _ (by exact Gr.cell ((((Gr.refl w).alloc _).alloc _).drewN _) hy)).mono ?_
  rintro e w1 ⟨rfl, rfl⟩
  go_wp2_with fail
  go_region
  go_wp2
  refine bodyPost_ret (v := (B.done kind n via had v true).last.val) (by simp [results, Try.results81, go_sem, Acc.val, Bk.done]) rfl ⟨rfl, ⟨?_, ?_, hne⟩, ?_⟩
  · rw [row_done]
    iterate 6 refine Blk.set_other ?_ (by simp; omega) _
    iterate 7 refine Blk.set ?_ _ _
    iterate 3 refine Blk.set_other ?_ (by simp; omega) _
    refine Blk.set_other ?_ (by simpa using hne) _
    exact ((HB.out.head.alloc _).alloc _).drewN _
  · show Blk _ _ (wordsRow (B.cells.set n v)) _
    rw [← wordsRow_set]
    iterate 6 refine Blk.set_other ?_ (by simp; omega) _
    iterate 7 refine Blk.set_other ?_ (by simpa using hne.symm) _
    iterate 3 refine Blk.set_other ?_ (by simp; omega) _
    refine Blk.set ?_ _ _
    exact ((HB.out.row.alloc _).alloc _).drewN _
  · iterate 6 refine Chg.setCell ?_ (.inr (by simp)) _
    iterate 7 refine Chg.setCell ?_ (.inl (.inl rfl)) _
    iterate 3 refine Chg.setCell ?_ (.inr (by simp)) _
    refine Chg.setCell ?_ (.inl (.inr rfl)) _
    exact (((Chg.refl _ _).alloc _).alloc _).drewN _

set_option maxHeartbeats 1000000 in
theorem access_outlow (p q : Nat) (B : Bk) (kind cell via : Int) (w : World) (hb : IsBank w p q B) (f : Value) (h : cell < 0) :
    Calls Try.prog 81 #[.pointer (some ⟨p, 0, none⟩), .agg #[.int .i64 kind, .int .i64 cell, .int .u64 via, .int .u64 0, .int .u64 0, .bool false], f] w (Accessed w p q (B.none kind cell via)) := by
  have hd : decide (0 ≤ cell) = false := by simpa using h
  have c0 := hb.c0
  have c1 := hb.c1
  have c2 := hb.c2
  have c3 := hb.c3
  have c4 := hb.c4
  have c5 := hb.c5
  have c6 := hb.c6
  have c7 := hb.c7
  have hlt := hb.head.lt
  have hlq := hb.row.lt
  have hne := hb.ne
  have hfp := fun i => hb.head.free i
  have HB := hid hb
  clear hb
  go_enter Try.func81, Try.ntmps81
  go_wp2
  go_quiet (fail)
  go_wp2
  refine bodyPost_ret (v := (B.none kind cell via).last.val) (by simp [results, Try.results81, go_sem, Acc.val, Bk.none]) rfl ⟨rfl, ⟨?_, ?_, hne⟩, ?_⟩
  · rw [row_none]
    iterate 6 refine Blk.set_other ?_ (by simp; omega) _
    iterate 7 refine Blk.set ?_ _ _
    exact ((HB.out.head.alloc _).alloc _).drewN _
  · show Blk _ _ (wordsRow B.cells) _
    iterate 6 refine Blk.set_other ?_ (by simp; omega) _
    iterate 7 refine Blk.set_other ?_ (by simpa using hne.symm) _
    exact ((HB.out.row.alloc _).alloc _).drewN _
  · iterate 6 refine Chg.setCell ?_ (.inr (by simp)) _
    iterate 7 refine Chg.setCell ?_ (.inl (.inl rfl)) _
    exact (((Chg.refl _ _).alloc _).alloc _).drewN _

set_option maxHeartbeats 1000000 in
theorem access_outhigh (p q : Nat) (B : Bk) (kind cell via : Int) (w : World) (hb : IsBank w p q B) (f : Value) (h0 : 0 ≤ cell) (h : ¬ cell < (B.cells.length : Int)) :
    Calls Try.prog 81 #[.pointer (some ⟨p, 0, none⟩), .agg #[.int .i64 kind, .int .i64 cell, .int .u64 via, .int .u64 0, .int .u64 0, .bool false], f] w (Accessed w p q (B.none kind cell via)) := by
  have c0 := hb.c0
  have c1 := hb.c1
  have c2 := hb.c2
  have c3 := hb.c3
  have c4 := hb.c4
  have c5 := hb.c5
  have c6 := hb.c6
  have c7 := hb.c7
  have hlt := hb.head.lt
  have hlq := hb.row.lt
  have hne := hb.ne
  have hfp := fun i => hb.head.free i
  have HB := hid hb
  clear hb
  go_enter Try.func81, Try.ntmps81
  go_wp2
  go_quiet (fail)
  go_wp2
  refine bodyPost_ret (v := (B.none kind cell via).last.val) (by simp [results, Try.results81, go_sem, Acc.val, Bk.none]) rfl ⟨rfl, ⟨?_, ?_, hne⟩, ?_⟩
  · rw [row_none]
    iterate 6 refine Blk.set_other ?_ (by simp; omega) _
    iterate 7 refine Blk.set ?_ _ _
    exact ((HB.out.head.alloc _).alloc _).drewN _
  · show Blk _ _ (wordsRow B.cells) _
    iterate 6 refine Blk.set_other ?_ (by simp; omega) _
    iterate 7 refine Blk.set_other ?_ (by simpa using hne.symm) _
    exact ((HB.out.row.alloc _).alloc _).drewN _
  · iterate 6 refine Chg.setCell ?_ (.inr (by simp)) _
    iterate 7 refine Chg.setCell ?_ (.inl (.inl rfl)) _
    exact (((Chg.refl _ _).alloc _).alloc _).drewN _


/-- Is there such a cell, and what has it? -/
def Bk.has (B : Bk) (cell : Int) : Bool := decide (0 ≤ cell ∧ cell < (B.cells.length : Int))
def Bk.get (B : Bk) (cell : Int) : Int := B.cells.getD cell.toNat 0

def Bk.load (B : Bk) (cell via : Int) : Bk := if B.has cell = true then B.done 1 cell.toNat via (B.get cell) (B.get cell) true else B.none 1 cell via
def Bk.store (B : Bk) (cell via v : Int) : Bk := if B.has cell = true then B.done 2 cell.toNat via (B.get cell) v true else B.none 2 cell via
def Bk.swap (B : Bk) (cell via old v : Int) : Bk := if B.has cell = true then B.done 3 cell.toNat via (B.get cell) (swapTo old v (B.get cell)) (swapIs old (B.get cell)) else B.none 3 cell via
/-- What an access tells, and leaves. -/
def Told (w : World) (p q : Nat) (B : Bk) (r : Value) (e : Ending) (w' : World) : Prop := e = .returned r ∧ IsBank w' p q B ∧ Chg (Two p q) w w'

/-- A call of access, with a function that is none of its own. -/
theorem access_no (p q : Nat) (B : Bk) (kind cell via : Int) (w : World) (hb : IsBank w p q B) (f : Value) (h : B.has cell = false) :
    Calls Try.prog 81 #[.pointer (some ⟨p, 0, none⟩), .agg #[.int .i64 kind, .int .i64 cell, .int .u64 via, .int .u64 0, .int .u64 0, .bool false], f] w (Accessed w p q (B.none kind cell via)) := by
  have h1 := of_decide_eq_false h
  by_cases h0 : cell < 0
  · exact access_outlow p q B kind cell via w hb f h0
  · exact access_outhigh p q B kind cell via w hb f (by omega) (by omega)

theorem Bk.has_nat {B : Bk} {cell : Int} (h : B.has cell = true) : ∃ n : Nat, cell = n ∧ n < B.cells.length := by
  have h1 := of_decide_eq_true h
  exact ⟨cell.toNat, by omega, by omega⟩

theorem IsBank.at {w : World} {p q : Nat} {B : Bk} (h : IsBank w p q B) {n : Nat} (hn : n < B.cells.length) : w.cell? ⟨q, n, none⟩ = some (.int .u64 (B.get n)) := by
  have := h.word hn
  simpa [Bk.get] using this

/-- What the caller made ahead of the access. -/
theorem Accessed.back {w w1 : World} {p q : Nat} {B : Bk} {e : Ending} {w' : World} (h : Accessed w1 p q B e w') (g : Gr w w1) : e = .returned B.last.val ∧ IsBank w' p q B ∧ Chg (Two p q) w w' :=
  ⟨h.1, h.2.1, g.chg.trans h.2.2⟩

theorem field_old (a b c d e : Int) (f : Bool) (w : World) : (Instr.field 104 (.agg #[.int .i64 a, .int .i64 b, .int .u64 c, .int .u64 d, .int .u64 e, .bool f]) 3).run Try.prog w = .ok (.int .u64 d) w := by kernel_rfl
theorem field_is (a b c d e : Int) (f : Bool) (w : World) : (Instr.field 104 (.agg #[.int .i64 a, .int .i64 b, .int .u64 c, .int .u64 d, .int .u64 e, .bool f]) 5).run Try.prog w = .ok (.bool f) w := by kernel_rfl

set_option maxHeartbeats 1000000 in
theorem load_any (p q : Nat) (B : Bk) (cell via : Int) (w : World) (hb : IsBank w p q B) :
    Calls Try.prog 64 #[.pointer (some ⟨p, 0, none⟩), .int .i64 cell, .int .u64 via] w (Told w p q (B.load cell via) (.int .u64 (B.load cell via).last.old)) := by
  have hmf : ∀ (fn : Fn) (first cap : Array Value) (w : World), (Instr.makeFunc fn first cap).run Try.prog w = .ok (.func fn first cap) w := fun _ _ _ _ => rfl
  have hf3 := field_old
  have hf5 := field_is
  by_cases h : B.has cell = true
  · obtain ⟨n, rfl, hn⟩ := Bk.has_nat h
    have e0 : B.load n via = B.done 1 n via (B.get n) (B.get n) true := if_pos h
    rw [e0]
    clear h e0
    go_enter Try.func64, Try.ntmps64
    go_wp2_with fail
    refine (access_load p q B 1 via (B.get n) n _ (hb.gr (Gr.refl _)) hn (hb.at hn)).mono ?_
    intro e w1 hacc
    obtain ⟨rfl, h1, h2⟩ := hacc.back (Gr.refl w)
    unfold Acc.val
    go_wp2_with fail
    go_ret
    exact ⟨rfl, h1, h2⟩
  · have h' : B.has cell = false := by simpa using h
    have e0 : B.load cell via = B.none 1 cell via := if_neg h
    rw [e0]
    clear h e0
    go_enter Try.func64, Try.ntmps64
    go_wp2_with fail
    refine (access_no p q B 1 cell via _ (hb.gr (Gr.refl w)) _ h').mono ?_
    intro e w1 hacc
    obtain ⟨rfl, h1, h2⟩ := hacc.back (Gr.refl w)
    unfold Acc.val
    go_wp2_with fail
    go_ret
    exact ⟨rfl, h1, h2⟩

set_option maxHeartbeats 1000000 in
theorem store_any (p q : Nat) (B : Bk) (cell via v : Int) (w : World) (hb : IsBank w p q B) :
    Calls Try.prog 66 #[.pointer (some ⟨p, 0, none⟩), .int .i64 cell, .int .u64 via, .int .u64 v] w (Told w p q (B.store cell via v) (.tuple #[])) := by
  have hmf : ∀ (fn : Fn) (first cap : Array Value) (w : World), (Instr.makeFunc fn first cap).run Try.prog w = .ok (.func fn first cap) w := fun _ _ _ _ => rfl
  have hf3 := field_old
  have hf5 := field_is
  by_cases h : B.has cell = true
  · obtain ⟨n, rfl, hn⟩ := Bk.has_nat h
    have e0 : B.store n via v = B.done 2 n via (B.get n) v true := if_pos h
    rw [e0]
    clear h e0
    go_enter Try.func66, Try.ntmps66
    go_wp2_with fail
    refine (access_store p q B 2 via (B.get n) n v w.heap.size _ (hb.gr ((Gr.refl w).alloc _)) hn ((hb.gr ((Gr.refl w).alloc _)).at hn) ((Blk.new _ _ _).cell rfl)).mono ?_
    intro e w1 hacc
    obtain ⟨rfl, h1, h2⟩ := hacc.back ((Gr.refl w).alloc _)
    unfold Acc.val
    go_wp2_with fail
    go_end0
    exact ⟨rfl, h1, h2⟩
  · have h' : B.has cell = false := by simpa using h
    have e0 : B.store cell via v = B.none 2 cell via := if_neg h
    rw [e0]
    clear h e0
    go_enter Try.func66, Try.ntmps66
    go_wp2_with fail
    refine (access_no p q B 2 cell via _ (hb.gr ((Gr.refl w).alloc _)) _ h').mono ?_
    intro e w1 hacc
    obtain ⟨rfl, h1, h2⟩ := hacc.back ((Gr.refl w).alloc _)
    unfold Acc.val
    go_wp2_with fail
    go_end0
    exact ⟨rfl, h1, h2⟩

set_option maxHeartbeats 1000000 in
theorem swap_any (p q : Nat) (B : Bk) (cell via old v : Int) (w : World) (hb : IsBank w p q B) :
    Calls Try.prog 95 #[.pointer (some ⟨p, 0, none⟩), .int .i64 cell, .int .u64 via, .int .u64 old, .int .u64 v] w (Told w p q (B.swap cell via old v) (.bool (B.swap cell via old v).last.done)) := by
  have hmf : ∀ (fn : Fn) (first cap : Array Value) (w : World), (Instr.makeFunc fn first cap).run Try.prog w = .ok (.func fn first cap) w := fun _ _ _ _ => rfl
  have hf3 := field_old
  have hf5 := field_is
  by_cases h : B.has cell = true
  · obtain ⟨n, rfl, hn⟩ := Bk.has_nat h
    have e0 : B.swap n via old v = B.done 3 n via (B.get n) (swapTo old v (B.get n)) (swapIs old (B.get n)) := if_pos h
    rw [e0]
    clear h e0
    go_enter Try.func95, Try.ntmps95
    go_wp2_with fail
    refine (access_swap p q B 3 via (B.get n) n old v w.heap.size (w.heap.size + 1) _ (hb.gr (((Gr.refl w).alloc _).alloc _)) hn ((hb.gr (((Gr.refl w).alloc _).alloc _)).at hn) (((Blk.new _ _ _).alloc _).cell rfl) ((Blk.new' (by simp)).cell rfl)).mono ?_
    intro e w1 hacc
    obtain ⟨rfl, h1, h2⟩ := hacc.back (((Gr.refl w).alloc _).alloc _)
    unfold Acc.val
    go_wp2_with fail
    go_ret
    exact ⟨rfl, h1, h2⟩
  · have h' : B.has cell = false := by simpa using h
    have e0 : B.swap cell via old v = B.none 3 cell via := if_neg h
    rw [e0]
    clear h e0
    go_enter Try.func95, Try.ntmps95
    go_wp2_with fail
    refine (access_no p q B 3 cell via _ (hb.gr (((Gr.refl w).alloc _).alloc _)) _ h').mono ?_
    intro e w1 hacc
    obtain ⟨rfl, h1, h2⟩ := hacc.back (((Gr.refl w).alloc _).alloc _)
    unfold Acc.val
    go_wp2_with fail
    go_ret
    exact ⟨rfl, h1, h2⟩

end Go.Proofs.YthbkncklliiooaaH
