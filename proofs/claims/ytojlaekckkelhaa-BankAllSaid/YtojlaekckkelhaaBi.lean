/-
  The walk of the reference of the layer bank: one access.
-/
import Derived.Test.YtojlaekckkelhaaBh
namespace Go.Proofs.Ytojlaekckkelhaa
set_option linter.unusedVariables false
set_option linter.unusedSimpArgs false
open Go.RowKit

/-- A slice is the same, or lies in new memory. -/
def Fresh (w : World) (s s' : Value) : Prop := s' = s ∨ ∀ a n c, s' = .slice (some a) n c → w.heap.size ≤ a.block

/-- What the reference's access leaves. -/
def RDone (w : World) (s : Value) (B : Bk) (e : Ending) (w' : World) : Prop := ∃ s', e = .returned (.tuple #[rval s' B.count B.last, B.last.val]) ∧ Words w' s' B.cells ∧ Gr w w' ∧ Fresh w s s'

theorem Words.at {w : World} {a : Addr} {cap : Nat} {l : List Int} (h : Words w (.slice (some a) l.length cap) l) {n : Nat} (hn : n < l.length) :
    ∃ b off : Nat, a = ⟨b, off, none⟩ ∧ b < w.heap.size ∧ w.cell? ⟨b, off + n, none⟩ = some (.int .u64 (l.getD n 0)) := by
  obtain ⟨b, off, spot⟩ := a
  have h1 := h.elem (i := 0) (by omega)
  have hs : spot = none := by simpa [Addr.add] using World.cell?_spot h1
  subst hs
  have hlt := lt_of_cell h1
  refine ⟨b, off, rfl, by simpa [Addr.add] using hlt, ?_⟩
  have h2 := h.elem hn
  by_cases h0 : n = 0
  · subst h0; simpa [Addr.add] using h2
  · simpa [Addr.add, h0] using h2

theorem set_same {l : List Int} {n : Nat} {x : Int} (hn : n < l.length) (hx : l.getD n 0 = x) : l.set n x = l := by
  rw [← hx, List.getD_eq_getElem?_getD, List.getElem?_eq_getElem hn]
  simp

theorem OwnWords.set {w : World} {q cap : Nat} {cur : Array Value} {l : List Int} (h : OwnWords w q cap cur l) (n : Nat) (x : Int) : OwnWords (w.setCell ⟨q, n, none⟩ (.int .u64 x)) q cap (cur.setIfInBounds n (.int .u64 x)) (l.set n x) := by
  refine ⟨h.blk.set n _, by simpa using h.size, by simpa using h.le, fun i hi => ?_⟩
  rw [List.length_set] at hi
  have h1 := h.get i hi
  have hlt := (Array.getElem?_eq_some_iff.1 h1).1
  by_cases hin : n = i
  · subst hin
    rw [Array.getElem?_setIfInBounds_self_of_lt hlt]
    simp [List.getD_eq_getElem?_getD, hi]
  · rw [Array.getElem?_setIfInBounds_ne hin, h1]
    simp [List.getD_eq_getElem?_getD, List.getElem?_set_ne hin]
theorem OwnWords.set_other {w : World} {q cap : Nat} {cur : Array Value} {l : List Int} (h : OwnWords w q cap cur l) {a : Addr} (ha : q ≠ a.block) (u : Value) : OwnWords (w.setCell a u) q cap cur l := ⟨h.blk.set_other ha u, h.size, h.le, h.get⟩
theorem OwnWords.drew {w : World} {q cap : Nat} {cur : Array Value} {l : List Int} (h : OwnWords w q cap cur l) : OwnWords w.drew q cap cur l := ⟨h.blk, h.size, h.le, h.get⟩

theorem Blk.of_eq {w : World} {b : Nat} {c c' : Array Value} {t : TypeId} (h : Blk w b c t) (e : c = c') : Blk w b c' t := e ▸ h

theorem res57 (t : Array Value) (x y : Nat) (W : World) (s : Value) (k : Int) (a a' : Acc) (hs : ∃ p n c, s = .slice p n c) (hx : t.getD 12 undef = .pointer (some ⟨x, 0, none⟩)) (hy : t.getD 13 undef = .pointer (some ⟨y, 0, none⟩))
    (bx : Blk W x #[s, .int .i64 k, .int .i64 a.kind, .int .i64 a.cell, .int .u64 a.via, .int .u64 a.old, .int .u64 a.new, .bool a.done] 42) (by' : Blk W y #[.int .i64 a'.kind, .int .i64 a'.cell, .int .u64 a'.via, .int .u64 a'.old, .int .u64 a'.new, .bool a'.done] 40) :
    (results Try.f57 t).run Try.prog W = .ok (.tuple #[rval s k a, a'.val]) W := by
  obtain ⟨p, n, c, rfl⟩ := hs
  have x0 : W.cell? ⟨x, 0, none⟩ = some (.slice p n c) := bx.cell rfl
  have x1 : W.cell? ⟨x, 1, none⟩ = some (.int .i64 k) := bx.cell rfl
  have x2 : W.cell? ⟨x, 2, none⟩ = some (.int .i64 a.kind) := bx.cell rfl
  have x3 : W.cell? ⟨x, 3, none⟩ = some (.int .i64 a.cell) := bx.cell rfl
  have x4 : W.cell? ⟨x, 4, none⟩ = some (.int .u64 a.via) := bx.cell rfl
  have x5 : W.cell? ⟨x, 5, none⟩ = some (.int .u64 a.old) := bx.cell rfl
  have x6 : W.cell? ⟨x, 6, none⟩ = some (.int .u64 a.new) := bx.cell rfl
  have x7 : W.cell? ⟨x, 7, none⟩ = some (.bool a.done) := bx.cell rfl
  have y0 : W.cell? ⟨y, 0, none⟩ = some (.int .i64 a'.kind) := by'.cell rfl
  have y1 : W.cell? ⟨y, 1, none⟩ = some (.int .i64 a'.cell) := by'.cell rfl
  have y2 : W.cell? ⟨y, 2, none⟩ = some (.int .u64 a'.via) := by'.cell rfl
  have y3 : W.cell? ⟨y, 3, none⟩ = some (.int .u64 a'.old) := by'.cell rfl
  have y4 : W.cell? ⟨y, 4, none⟩ = some (.int .u64 a'.new) := by'.cell rfl
  have y5 : W.cell? ⟨y, 5, none⟩ = some (.bool a'.done) := by'.cell rfl
  simp only [Array.getD_eq_getD_getElem?] at hx hy
  simp [results, Try.results57, go_sem, rval, Acc.val, hx, hy, x0, x1, x2, x3, x4, x5, x6, x7, y0, y1, y2, y3, y4, y5]

set_option maxRecDepth 100000 in
set_option maxHeartbeats 2000000 in
theorem rdo_load (b off : Nat) (cap : Nat) (B : Bk) (n : Nat) (via old v had : Int) (w : World) (hv : Words w (.slice (some ⟨b, off, none⟩) B.cells.length cap) B.cells) (hn : n < B.cells.length) (hh : w.cell? ⟨b, off + n, none⟩ = some (.int .u64 had)) (hget : B.cells.getD n 0 = had) (hl : B.cells.length ≤ 100) :
    Calls Try.prog 57 #[rval (.slice (some ⟨b, off, none⟩) B.cells.length cap) B.count B.last, .int .i64 1, .int .i64 n, .int .u64 via, .int .u64 old, .int .u64 v] w (RDone w (.slice (some ⟨b, off, none⟩) B.cells.length cap) (B.done 1 n via had had true)) := by
  have HV := hid hv
  have HG := hid hget
  have hlb : b < w.heap.size := lt_of_cell hh
  have hn' : (n : Int) < B.cells.length := by omega
  have hn0 : 0 ≤ (n : Int) := by omega
  have hb1 : b < w.heap.size + 1 := by omega
  have hb2 : b < w.heap.size + 2 := by omega
  have hb3 : b < w.heap.size + 3 := by omega
  have hb4 : b < w.heap.size + 4 := by omega
  have hb5 : b < w.heap.size + 5 := by omega
  unfold rval
  clear hv hget
  go_enter Try.func57, Try.ntmps57
  go_wp2_with fail
  go_region
  go_wp2
  refine bodyPost_ret (v := .tuple #[rval (.slice (some ⟨b, off, none⟩) B.cells.length cap) (B.done 1 n via had had true).count (B.done 1 n via had had true).last, (B.done 1 n via had had true).last.val]) (by simp [results, Try.results57, go_sem, rval, Acc.val, Bk.done]) rfl ⟨_, rfl, ?_, ?_, .inl rfl⟩
  · show Words _ _ (B.cells.set n had)
    rw [set_same hn (HG.out)]
    refine HV.out.gr ?_
    repeat (first | (with_reducible exact Gr.refl _) | (with_reducible refine Gr.drew ?_) | (with_reducible refine Gr.drewN ?_ _) | (with_reducible refine Gr.alloc ?_ _) | ((with_reducible refine Gr.setCell ?_ ?_ _); rotate_left; focus (simp <;> omega)))
  · repeat (first | (with_reducible exact Gr.refl _) | (with_reducible refine Gr.drew ?_) | (with_reducible refine Gr.drewN ?_ _) | (with_reducible refine Gr.alloc ?_ _) | ((with_reducible refine Gr.setCell ?_ ?_ _); rotate_left; focus (simp <;> omega)))

set_option maxRecDepth 100000 in
set_option maxHeartbeats 2000000 in
theorem rdo_low (s : Option Addr) (cap : Nat) (B : Bk) (kind cell via old v : Int) (w : World) (hv : Words w (.slice s B.cells.length cap) B.cells) (h : cell < 0) :
    Calls Try.prog 57 #[rval (.slice s B.cells.length cap) B.count B.last, .int .i64 kind, .int .i64 cell, .int .u64 via, .int .u64 old, .int .u64 v] w (RDone w (.slice s B.cells.length cap) (B.none kind cell via)) := by
  have HV := hid hv
  unfold rval
  clear hv
  go_enter Try.func57, Try.ntmps57
  go_wp2_with fail
  go_region
  go_wp2
  refine bodyPost_ret (v := .tuple #[rval (.slice s B.cells.length cap) (B.none kind cell via).count (B.none kind cell via).last, (B.none kind cell via).last.val]) (by simp [results, Try.results57, go_sem, rval, Acc.val, Bk.none]) rfl ⟨_, rfl, ?_, ?_, .inl rfl⟩
  · show Words _ _ B.cells
    refine HV.out.gr ?_
    repeat (first | (with_reducible exact Gr.refl _) | (with_reducible refine Gr.drew ?_) | (with_reducible refine Gr.drewN ?_ _) | (with_reducible refine Gr.alloc ?_ _) | ((with_reducible refine Gr.setCell ?_ ?_ _); rotate_left; focus (simp <;> omega)))
  · repeat (first | (with_reducible exact Gr.refl _) | (with_reducible refine Gr.drew ?_) | (with_reducible refine Gr.drewN ?_ _) | (with_reducible refine Gr.alloc ?_ _) | ((with_reducible refine Gr.setCell ?_ ?_ _); rotate_left; focus (simp <;> omega)))

set_option maxRecDepth 100000 in
set_option maxHeartbeats 2000000 in
theorem rdo_high (s : Option Addr) (cap : Nat) (B : Bk) (kind cell via old v : Int) (w : World) (hv : Words w (.slice s B.cells.length cap) B.cells) (h0 : 0 ≤ cell) (h : ¬ cell < (B.cells.length : Int)) :
    Calls Try.prog 57 #[rval (.slice s B.cells.length cap) B.count B.last, .int .i64 kind, .int .i64 cell, .int .u64 via, .int .u64 old, .int .u64 v] w (RDone w (.slice s B.cells.length cap) (B.none kind cell via)) := by
  have HV := hid hv
  unfold rval
  clear hv
  go_enter Try.func57, Try.ntmps57
  go_wp2_with fail
  go_region
  go_wp2
  refine bodyPost_ret (v := .tuple #[rval (.slice s B.cells.length cap) (B.none kind cell via).count (B.none kind cell via).last, (B.none kind cell via).last.val]) (by simp [results, Try.results57, go_sem, rval, Acc.val, Bk.none]) rfl ⟨_, rfl, ?_, ?_, .inl rfl⟩
  · show Words _ _ B.cells
    refine HV.out.gr ?_
    repeat (first | (with_reducible exact Gr.refl _) | (with_reducible refine Gr.drew ?_) | (with_reducible refine Gr.drewN ?_ _) | (with_reducible refine Gr.alloc ?_ _) | ((with_reducible refine Gr.setCell ?_ ?_ _); rotate_left; focus (simp <;> omega)))
  · repeat (first | (with_reducible exact Gr.refl _) | (with_reducible refine Gr.drew ?_) | (with_reducible refine Gr.drewN ?_ _) | (with_reducible refine Gr.alloc ?_ _) | ((with_reducible refine Gr.setCell ?_ ?_ _); rotate_left; focus (simp <;> omega)))

set_option maxRecDepth 100000 in
set_option maxHeartbeats 2000000 in
theorem rdo_store (b off : Nat) (cap : Nat) (B : Bk) (n : Nat) (via old v had : Int) (w : World) (hv : Words w (.slice (some ⟨b, off, none⟩) B.cells.length cap) B.cells) (hn : n < B.cells.length) (hh : w.cell? ⟨b, off + n, none⟩ = some (.int .u64 had)) (hget : B.cells.getD n 0 = had) (hl : B.cells.length ≤ 100) (f1 : (v != had) = true) :
    Calls Try.prog 57 #[rval (.slice (some ⟨b, off, none⟩) B.cells.length cap) B.count B.last, .int .i64 2, .int .i64 n, .int .u64 via, .int .u64 old, .int .u64 v] w (RDone w (.slice (some ⟨b, off, none⟩) B.cells.length cap) (B.done 2 n via had v true)) := by
  have HV := hid hv
  have HG := hid hget
  have hlb : b < w.heap.size := lt_of_cell hh
  have hn' : (n : Int) < B.cells.length := by omega
  have hn0 : 0 ≤ (n : Int) := by omega
  have hb1 : b < w.heap.size + 1 := by omega
  have hb2 : b < w.heap.size + 2 := by omega
  have hb3 : b < w.heap.size + 3 := by omega
  have hb4 : b < w.heap.size + 4 := by omega
  have hb5 : b < w.heap.size + 5 := by omega
  unfold rval
  clear hv hget
  go_enter Try.func57, Try.ntmps57
  go_wp2_with (with_reducible refine wpList_append_words rfl (.tmp 76) (.tmp 78) 37 rfl Try.underlying37 info22 (w.heap.size + 1 + 1 + 1 + 1 + 1) B.cells _ rfl rfl ?c1 ?c2 ?c3 ?_)
  case c1 => exact Blk.new' (by simp)
  case c2 => exact HV.out.gr ((((((Gr.refl w).alloc _).alloc _).alloc _).alloc _).alloc _ |>.alloc _)
  case c3 => omega
  intro q cap1 cur w1 hq ho c1
  have GW := hid (Gr.step (a := w) (by repeat (first | exact Gr.refl _ | refine Gr.alloc ?_ _)) c1 (by rintro i rfl; omega))
  have hqs := ho.out.blk.lt
  have hs0 := c1.size
  simp only [World.size_alloc] at hs0
  have X : Blk w1 (w.heap.size + 1) #[.slice none 0 0, .int .i64 0, .int .i64 0, .int .i64 0, .int .u64 0, .int .u64 0, .int .u64 0, .bool false] 42 := Blk.chg (by repeat (first | exact Blk.new' (by simp) | refine Blk.alloc ?_ _)) c1 (by simp <;> omega)
  have x0 : w1.cell? ⟨w.heap.size + 1, 0, none⟩ = some (.slice none 0 0) := X.cell rfl
  have x1 : w1.cell? ⟨w.heap.size + 1, 1, none⟩ = some (.int .i64 0) := X.cell rfl
  have x2 : w1.cell? ⟨w.heap.size + 1, 2, none⟩ = some (.int .i64 0) := X.cell rfl
  have x3 : w1.cell? ⟨w.heap.size + 1, 3, none⟩ = some (.int .i64 0) := X.cell rfl
  have x4 : w1.cell? ⟨w.heap.size + 1, 4, none⟩ = some (.int .u64 0) := X.cell rfl
  have x5 : w1.cell? ⟨w.heap.size + 1, 5, none⟩ = some (.int .u64 0) := X.cell rfl
  have x6 : w1.cell? ⟨w.heap.size + 1, 6, none⟩ = some (.int .u64 0) := X.cell rfl
  have x7 : w1.cell? ⟨w.heap.size + 1, 7, none⟩ = some (.bool false) := X.cell rfl
  have xf := X.free
  have Y : Blk w1 (w.heap.size + 1 + 1) #[.int .i64 0, .int .i64 0, .int .u64 0, .int .u64 0, .int .u64 0, .bool false] 40 := Blk.chg (by repeat (first | exact Blk.new' (by simp) | refine Blk.alloc ?_ _)) c1 (by simp <;> omega)
  have y0 : w1.cell? ⟨w.heap.size + 1 + 1, 0, none⟩ = some (.int .i64 0) := Y.cell rfl
  have y1 : w1.cell? ⟨w.heap.size + 1 + 1, 1, none⟩ = some (.int .i64 0) := Y.cell rfl
  have y2 : w1.cell? ⟨w.heap.size + 1 + 1, 2, none⟩ = some (.int .u64 0) := Y.cell rfl
  have y3 : w1.cell? ⟨w.heap.size + 1 + 1, 3, none⟩ = some (.int .u64 0) := Y.cell rfl
  have y4 : w1.cell? ⟨w.heap.size + 1 + 1, 4, none⟩ = some (.int .u64 0) := Y.cell rfl
  have y5 : w1.cell? ⟨w.heap.size + 1 + 1, 5, none⟩ = some (.bool false) := Y.cell rfl
  have yf := Y.free
  have Z : Blk w1 (w.heap.size + 1 + 1 + 1) #[.int .i64 2, .int .i64 n, .int .u64 via, .int .u64 had, .int .u64 v, .bool true] 40 := Blk.chg (by repeat (first | exact Blk.new' (by simp) | refine Blk.alloc ?_ _)) c1 (by simp <;> omega)
  have z0 : w1.cell? ⟨w.heap.size + 1 + 1 + 1, 0, none⟩ = some (.int .i64 2) := Z.cell rfl
  have z1 : w1.cell? ⟨w.heap.size + 1 + 1 + 1, 1, none⟩ = some (.int .i64 n) := Z.cell rfl
  have z2 : w1.cell? ⟨w.heap.size + 1 + 1 + 1, 2, none⟩ = some (.int .u64 via) := Z.cell rfl
  have z3 : w1.cell? ⟨w.heap.size + 1 + 1 + 1, 3, none⟩ = some (.int .u64 had) := Z.cell rfl
  have z4 : w1.cell? ⟨w.heap.size + 1 + 1 + 1, 4, none⟩ = some (.int .u64 v) := Z.cell rfl
  have z5 : w1.cell? ⟨w.heap.size + 1 + 1 + 1, 5, none⟩ = some (.bool true) := Z.cell rfl
  have zf := Z.free
  have U : Blk w1 (w.heap.size + 1 + 1 + 1 + 1) #[.slice (some ⟨b, off, none⟩) B.cells.length cap, .int .i64 (wrap64 (B.count + 1)), .int .i64 0, .int .i64 0, .int .u64 0, .int .u64 0, .int .u64 0, .bool false] 42 := Blk.chg (by repeat (first | exact Blk.new' (by simp) | refine Blk.alloc ?_ _)) c1 (by simp <;> omega)
  have u0 : w1.cell? ⟨w.heap.size + 1 + 1 + 1 + 1, 0, none⟩ = some (.slice (some ⟨b, off, none⟩) B.cells.length cap) := U.cell rfl
  have u1 : w1.cell? ⟨w.heap.size + 1 + 1 + 1 + 1, 1, none⟩ = some (.int .i64 (wrap64 (B.count + 1))) := U.cell rfl
  have u2 : w1.cell? ⟨w.heap.size + 1 + 1 + 1 + 1, 2, none⟩ = some (.int .i64 0) := U.cell rfl
  have u3 : w1.cell? ⟨w.heap.size + 1 + 1 + 1 + 1, 3, none⟩ = some (.int .i64 0) := U.cell rfl
  have u4 : w1.cell? ⟨w.heap.size + 1 + 1 + 1 + 1, 4, none⟩ = some (.int .u64 0) := U.cell rfl
  have u5 : w1.cell? ⟨w.heap.size + 1 + 1 + 1 + 1, 5, none⟩ = some (.int .u64 0) := U.cell rfl
  have u6 : w1.cell? ⟨w.heap.size + 1 + 1 + 1 + 1, 6, none⟩ = some (.int .u64 0) := U.cell rfl
  have u7 : w1.cell? ⟨w.heap.size + 1 + 1 + 1 + 1, 7, none⟩ = some (.bool false) := U.cell rfl
  have uf := U.free
  have hnq : ∀ i, i ≤ 5 → w.heap.size + i ≠ q ∨ i = 5 := by intro i hi; omega
  have qq := ho.out.blk.free
  have qn := ho.out.blk.cell (ho.out.get n hn)
  go_wp2
  go_region
  go_wp2
  refine bodyPost_ret (v := .tuple #[rval (.slice (some ⟨q, 0, none⟩) B.cells.length cap1) (B.done 2 n via had v true).count (B.done 2 n via had v true).last, (B.done 2 n via had v true).last.val]) (res57 _ (w.heap.size + 1) (w.heap.size + 1 + 1) _ _ _ _ _ ⟨_, _, _, rfl⟩ rfl rfl ?_ ?_) rfl ⟨_, rfl, ?_, ?_, .inr (by intro a n c e; cases e; show w.heap.size ≤ q; omega)⟩
  · refine Blk.of_eq (c := (((((((((#[.slice none 0 0, .int .i64 0, .int .i64 0, .int .i64 0, .int .u64 0, .int .u64 0, .int .u64 0, .bool false] : Array Value).setIfInBounds 0 (.slice (some ⟨q, 0, none⟩) B.cells.length cap1)).setIfInBounds 1 (.int .i64 (wrap64 (B.count + 1)))).setIfInBounds 2 (.int .i64 2)).setIfInBounds 3 (.int .i64 n)).setIfInBounds 4 (.int .u64 via)).setIfInBounds 5 (.int .u64 had)).setIfInBounds 6 (.int .u64 v)).setIfInBounds 7 (.bool true))) ?hx ?ex
    case hx => repeat (first | (with_reducible exact X) | (with_reducible refine Blk.set ?_ _ _) | (with_reducible refine Blk.drew ?_) | ((with_reducible refine Blk.set_other ?_ ?_ _); rotate_left; focus (simp <;> omega)))
    case ex => rfl
  · refine Blk.of_eq (c := (((((((#[.int .i64 0, .int .i64 0, .int .u64 0, .int .u64 0, .int .u64 0, .bool false] : Array Value).setIfInBounds 0 (.int .i64 2)).setIfInBounds 1 (.int .i64 n)).setIfInBounds 2 (.int .u64 via)).setIfInBounds 3 (.int .u64 had)).setIfInBounds 4 (.int .u64 v)).setIfInBounds 5 (.bool true))) ?hy ?ey
    case hy => repeat (first | (with_reducible exact Y) | (with_reducible refine Blk.set ?_ _ _) | (with_reducible refine Blk.drew ?_) | ((with_reducible refine Blk.set_other ?_ ?_ _); rotate_left; focus (simp <;> omega)))
    case ey => rfl
  · show Words _ _ (B.cells.set n v)
    have hlen : B.cells.length = (B.cells.set n v).length := List.length_set.symm
    rw [hlen]
    refine OwnWords.words (cur := cur.setIfInBounds n (.int .u64 v)) ?_
    repeat (first | (with_reducible exact ho.out) | (with_reducible refine OwnWords.set ?_ _ _) | (with_reducible refine OwnWords.drew ?_) | ((with_reducible refine OwnWords.set_other ?_ ?_ _); rotate_left; focus (simp <;> omega)))
  · repeat (first | (with_reducible exact GW.out) | (with_reducible refine Gr.drew ?_) | (with_reducible refine Gr.drewN ?_ _) | ((with_reducible refine Gr.setCell ?_ ?_ _); rotate_left; focus (simp <;> omega)))

set_option maxRecDepth 100000 in
set_option maxHeartbeats 2000000 in
theorem rdo_store_same (b off : Nat) (cap : Nat) (B : Bk) (n : Nat) (via old had : Int) (w : World) (hv : Words w (.slice (some ⟨b, off, none⟩) B.cells.length cap) B.cells) (hn : n < B.cells.length) (hh : w.cell? ⟨b, off + n, none⟩ = some (.int .u64 had)) (hget : B.cells.getD n 0 = had) (hl : B.cells.length ≤ 100) :
    Calls Try.prog 57 #[rval (.slice (some ⟨b, off, none⟩) B.cells.length cap) B.count B.last, .int .i64 2, .int .i64 n, .int .u64 via, .int .u64 old, .int .u64 had] w (RDone w (.slice (some ⟨b, off, none⟩) B.cells.length cap) (B.done 2 n via had had true)) := by
  have HV := hid hv
  have HG := hid hget
  have hlb : b < w.heap.size := lt_of_cell hh
  have hn' : (n : Int) < B.cells.length := by omega
  have hn0 : 0 ≤ (n : Int) := by omega
  have hb1 : b < w.heap.size + 1 := by omega
  have hb2 : b < w.heap.size + 2 := by omega
  have hb3 : b < w.heap.size + 3 := by omega
  have hb4 : b < w.heap.size + 4 := by omega
  have hb5 : b < w.heap.size + 5 := by omega
  unfold rval
  clear hv hget
  go_enter Try.func57, Try.ntmps57
  go_wp2_with fail
  go_region
  go_wp2
  refine bodyPost_ret (v := .tuple #[rval (.slice (some ⟨b, off, none⟩) B.cells.length cap) (B.done 2 n via had had true).count (B.done 2 n via had had true).last, (B.done 2 n via had had true).last.val]) (by simp [results, Try.results57, go_sem, rval, Acc.val, Bk.done]) rfl ⟨_, rfl, ?_, ?_, .inl rfl⟩
  · show Words _ _ (B.cells.set n had)
    rw [set_same hn (HG.out)]
    refine HV.out.gr ?_
    repeat (first | (with_reducible exact Gr.refl _) | (with_reducible refine Gr.drew ?_) | (with_reducible refine Gr.drewN ?_ _) | (with_reducible refine Gr.alloc ?_ _) | ((with_reducible refine Gr.setCell ?_ ?_ _); rotate_left; focus (simp <;> omega)))
  · repeat (first | (with_reducible exact Gr.refl _) | (with_reducible refine Gr.drew ?_) | (with_reducible refine Gr.drewN ?_ _) | (with_reducible refine Gr.alloc ?_ _) | ((with_reducible refine Gr.setCell ?_ ?_ _); rotate_left; focus (simp <;> omega)))

set_option maxRecDepth 100000 in
set_option maxHeartbeats 2000000 in
theorem rdo_swap (b off : Nat) (cap : Nat) (B : Bk) (n : Nat) (via v had : Int) (w : World) (hv : Words w (.slice (some ⟨b, off, none⟩) B.cells.length cap) B.cells) (hn : n < B.cells.length) (hh : w.cell? ⟨b, off + n, none⟩ = some (.int .u64 had)) (hget : B.cells.getD n 0 = had) (hl : B.cells.length ≤ 100) (f1 : (v != had) = true) :
    Calls Try.prog 57 #[rval (.slice (some ⟨b, off, none⟩) B.cells.length cap) B.count B.last, .int .i64 3, .int .i64 n, .int .u64 via, .int .u64 had, .int .u64 v] w (RDone w (.slice (some ⟨b, off, none⟩) B.cells.length cap) (B.done 3 n via had v true)) := by
  have HV := hid hv
  have HG := hid hget
  have hlb : b < w.heap.size := lt_of_cell hh
  have hn' : (n : Int) < B.cells.length := by omega
  have hn0 : 0 ≤ (n : Int) := by omega
  have hb1 : b < w.heap.size + 1 := by omega
  have hb2 : b < w.heap.size + 2 := by omega
  have hb3 : b < w.heap.size + 3 := by omega
  have hb4 : b < w.heap.size + 4 := by omega
  have hb5 : b < w.heap.size + 5 := by omega
  unfold rval
  clear hv hget
  go_enter Try.func57, Try.ntmps57
  go_wp2_with (with_reducible refine wpList_append_words rfl (.tmp 76) (.tmp 78) 37 rfl Try.underlying37 info22 (w.heap.size + 1 + 1 + 1 + 1 + 1) B.cells _ rfl rfl ?c1 ?c2 ?c3 ?_)
  case c1 => exact Blk.new' (by simp)
  case c2 => exact HV.out.gr ((((((Gr.refl w).alloc _).alloc _).alloc _).alloc _).alloc _ |>.alloc _)
  case c3 => omega
  intro q cap1 cur w1 hq ho c1
  have GW := hid (Gr.step (a := w) (by repeat (first | exact Gr.refl _ | refine Gr.alloc ?_ _)) c1 (by rintro i rfl; omega))
  have hqs := ho.out.blk.lt
  have hs0 := c1.size
  simp only [World.size_alloc] at hs0
  have X : Blk w1 (w.heap.size + 1) #[.slice none 0 0, .int .i64 0, .int .i64 0, .int .i64 0, .int .u64 0, .int .u64 0, .int .u64 0, .bool false] 42 := Blk.chg (by repeat (first | exact Blk.new' (by simp) | refine Blk.alloc ?_ _)) c1 (by simp <;> omega)
  have x0 : w1.cell? ⟨w.heap.size + 1, 0, none⟩ = some (.slice none 0 0) := X.cell rfl
  have x1 : w1.cell? ⟨w.heap.size + 1, 1, none⟩ = some (.int .i64 0) := X.cell rfl
  have x2 : w1.cell? ⟨w.heap.size + 1, 2, none⟩ = some (.int .i64 0) := X.cell rfl
  have x3 : w1.cell? ⟨w.heap.size + 1, 3, none⟩ = some (.int .i64 0) := X.cell rfl
  have x4 : w1.cell? ⟨w.heap.size + 1, 4, none⟩ = some (.int .u64 0) := X.cell rfl
  have x5 : w1.cell? ⟨w.heap.size + 1, 5, none⟩ = some (.int .u64 0) := X.cell rfl
  have x6 : w1.cell? ⟨w.heap.size + 1, 6, none⟩ = some (.int .u64 0) := X.cell rfl
  have x7 : w1.cell? ⟨w.heap.size + 1, 7, none⟩ = some (.bool false) := X.cell rfl
  have xf := X.free
  have Y : Blk w1 (w.heap.size + 1 + 1) #[.int .i64 0, .int .i64 0, .int .u64 0, .int .u64 0, .int .u64 0, .bool false] 40 := Blk.chg (by repeat (first | exact Blk.new' (by simp) | refine Blk.alloc ?_ _)) c1 (by simp <;> omega)
  have y0 : w1.cell? ⟨w.heap.size + 1 + 1, 0, none⟩ = some (.int .i64 0) := Y.cell rfl
  have y1 : w1.cell? ⟨w.heap.size + 1 + 1, 1, none⟩ = some (.int .i64 0) := Y.cell rfl
  have y2 : w1.cell? ⟨w.heap.size + 1 + 1, 2, none⟩ = some (.int .u64 0) := Y.cell rfl
  have y3 : w1.cell? ⟨w.heap.size + 1 + 1, 3, none⟩ = some (.int .u64 0) := Y.cell rfl
  have y4 : w1.cell? ⟨w.heap.size + 1 + 1, 4, none⟩ = some (.int .u64 0) := Y.cell rfl
  have y5 : w1.cell? ⟨w.heap.size + 1 + 1, 5, none⟩ = some (.bool false) := Y.cell rfl
  have yf := Y.free
  have Z : Blk w1 (w.heap.size + 1 + 1 + 1) #[.int .i64 3, .int .i64 n, .int .u64 via, .int .u64 had, .int .u64 v, .bool true] 40 := Blk.chg (by repeat (first | exact Blk.new' (by simp) | refine Blk.alloc ?_ _)) c1 (by simp <;> omega)
  have z0 : w1.cell? ⟨w.heap.size + 1 + 1 + 1, 0, none⟩ = some (.int .i64 3) := Z.cell rfl
  have z1 : w1.cell? ⟨w.heap.size + 1 + 1 + 1, 1, none⟩ = some (.int .i64 n) := Z.cell rfl
  have z2 : w1.cell? ⟨w.heap.size + 1 + 1 + 1, 2, none⟩ = some (.int .u64 via) := Z.cell rfl
  have z3 : w1.cell? ⟨w.heap.size + 1 + 1 + 1, 3, none⟩ = some (.int .u64 had) := Z.cell rfl
  have z4 : w1.cell? ⟨w.heap.size + 1 + 1 + 1, 4, none⟩ = some (.int .u64 v) := Z.cell rfl
  have z5 : w1.cell? ⟨w.heap.size + 1 + 1 + 1, 5, none⟩ = some (.bool true) := Z.cell rfl
  have zf := Z.free
  have U : Blk w1 (w.heap.size + 1 + 1 + 1 + 1) #[.slice (some ⟨b, off, none⟩) B.cells.length cap, .int .i64 (wrap64 (B.count + 1)), .int .i64 0, .int .i64 0, .int .u64 0, .int .u64 0, .int .u64 0, .bool false] 42 := Blk.chg (by repeat (first | exact Blk.new' (by simp) | refine Blk.alloc ?_ _)) c1 (by simp <;> omega)
  have u0 : w1.cell? ⟨w.heap.size + 1 + 1 + 1 + 1, 0, none⟩ = some (.slice (some ⟨b, off, none⟩) B.cells.length cap) := U.cell rfl
  have u1 : w1.cell? ⟨w.heap.size + 1 + 1 + 1 + 1, 1, none⟩ = some (.int .i64 (wrap64 (B.count + 1))) := U.cell rfl
  have u2 : w1.cell? ⟨w.heap.size + 1 + 1 + 1 + 1, 2, none⟩ = some (.int .i64 0) := U.cell rfl
  have u3 : w1.cell? ⟨w.heap.size + 1 + 1 + 1 + 1, 3, none⟩ = some (.int .i64 0) := U.cell rfl
  have u4 : w1.cell? ⟨w.heap.size + 1 + 1 + 1 + 1, 4, none⟩ = some (.int .u64 0) := U.cell rfl
  have u5 : w1.cell? ⟨w.heap.size + 1 + 1 + 1 + 1, 5, none⟩ = some (.int .u64 0) := U.cell rfl
  have u6 : w1.cell? ⟨w.heap.size + 1 + 1 + 1 + 1, 6, none⟩ = some (.int .u64 0) := U.cell rfl
  have u7 : w1.cell? ⟨w.heap.size + 1 + 1 + 1 + 1, 7, none⟩ = some (.bool false) := U.cell rfl
  have uf := U.free
  have hnq : ∀ i, i ≤ 5 → w.heap.size + i ≠ q ∨ i = 5 := by intro i hi; omega
  have qq := ho.out.blk.free
  have qn := ho.out.blk.cell (ho.out.get n hn)
  go_wp2
  go_region
  go_wp2
  refine bodyPost_ret (v := .tuple #[rval (.slice (some ⟨q, 0, none⟩) B.cells.length cap1) (B.done 3 n via had v true).count (B.done 3 n via had v true).last, (B.done 3 n via had v true).last.val]) (res57 _ (w.heap.size + 1) (w.heap.size + 1 + 1) _ _ _ _ _ ⟨_, _, _, rfl⟩ rfl rfl ?_ ?_) rfl ⟨_, rfl, ?_, ?_, .inr (by intro a n c e; cases e; show w.heap.size ≤ q; omega)⟩
  · refine Blk.of_eq (c := (((((((((#[.slice none 0 0, .int .i64 0, .int .i64 0, .int .i64 0, .int .u64 0, .int .u64 0, .int .u64 0, .bool false] : Array Value).setIfInBounds 0 (.slice (some ⟨q, 0, none⟩) B.cells.length cap1)).setIfInBounds 1 (.int .i64 (wrap64 (B.count + 1)))).setIfInBounds 2 (.int .i64 3)).setIfInBounds 3 (.int .i64 n)).setIfInBounds 4 (.int .u64 via)).setIfInBounds 5 (.int .u64 had)).setIfInBounds 6 (.int .u64 v)).setIfInBounds 7 (.bool true))) ?hx ?ex
    case hx => repeat (first | (with_reducible exact X) | (with_reducible refine Blk.set ?_ _ _) | (with_reducible refine Blk.drew ?_) | ((with_reducible refine Blk.set_other ?_ ?_ _); rotate_left; focus (simp <;> omega)))
    case ex => rfl
  · refine Blk.of_eq (c := (((((((#[.int .i64 0, .int .i64 0, .int .u64 0, .int .u64 0, .int .u64 0, .bool false] : Array Value).setIfInBounds 0 (.int .i64 3)).setIfInBounds 1 (.int .i64 n)).setIfInBounds 2 (.int .u64 via)).setIfInBounds 3 (.int .u64 had)).setIfInBounds 4 (.int .u64 v)).setIfInBounds 5 (.bool true))) ?hy ?ey
    case hy => repeat (first | (with_reducible exact Y) | (with_reducible refine Blk.set ?_ _ _) | (with_reducible refine Blk.drew ?_) | ((with_reducible refine Blk.set_other ?_ ?_ _); rotate_left; focus (simp <;> omega)))
    case ey => rfl
  · show Words _ _ (B.cells.set n v)
    have hlen : B.cells.length = (B.cells.set n v).length := List.length_set.symm
    rw [hlen]
    refine OwnWords.words (cur := cur.setIfInBounds n (.int .u64 v)) ?_
    repeat (first | (with_reducible exact ho.out) | (with_reducible refine OwnWords.set ?_ _ _) | (with_reducible refine OwnWords.drew ?_) | ((with_reducible refine OwnWords.set_other ?_ ?_ _); rotate_left; focus (simp <;> omega)))
  · repeat (first | (with_reducible exact GW.out) | (with_reducible refine Gr.drew ?_) | (with_reducible refine Gr.drewN ?_ _) | ((with_reducible refine Gr.setCell ?_ ?_ _); rotate_left; focus (simp <;> omega)))

set_option maxRecDepth 100000 in
set_option maxHeartbeats 2000000 in
theorem rdo_swap_same (b off : Nat) (cap : Nat) (B : Bk) (n : Nat) (via had : Int) (w : World) (hv : Words w (.slice (some ⟨b, off, none⟩) B.cells.length cap) B.cells) (hn : n < B.cells.length) (hh : w.cell? ⟨b, off + n, none⟩ = some (.int .u64 had)) (hget : B.cells.getD n 0 = had) (hl : B.cells.length ≤ 100) :
    Calls Try.prog 57 #[rval (.slice (some ⟨b, off, none⟩) B.cells.length cap) B.count B.last, .int .i64 3, .int .i64 n, .int .u64 via, .int .u64 had, .int .u64 had] w (RDone w (.slice (some ⟨b, off, none⟩) B.cells.length cap) (B.done 3 n via had had true)) := by
  have HV := hid hv
  have HG := hid hget
  have hlb : b < w.heap.size := lt_of_cell hh
  have hn' : (n : Int) < B.cells.length := by omega
  have hn0 : 0 ≤ (n : Int) := by omega
  have hb1 : b < w.heap.size + 1 := by omega
  have hb2 : b < w.heap.size + 2 := by omega
  have hb3 : b < w.heap.size + 3 := by omega
  have hb4 : b < w.heap.size + 4 := by omega
  have hb5 : b < w.heap.size + 5 := by omega
  unfold rval
  clear hv hget
  go_enter Try.func57, Try.ntmps57
  go_wp2_with fail
  go_region
  go_wp2
  refine bodyPost_ret (v := .tuple #[rval (.slice (some ⟨b, off, none⟩) B.cells.length cap) (B.done 3 n via had had true).count (B.done 3 n via had had true).last, (B.done 3 n via had had true).last.val]) (by simp [results, Try.results57, go_sem, rval, Acc.val, Bk.done]) rfl ⟨_, rfl, ?_, ?_, .inl rfl⟩
  · show Words _ _ (B.cells.set n had)
    rw [set_same hn (HG.out)]
    refine HV.out.gr ?_
    repeat (first | (with_reducible exact Gr.refl _) | (with_reducible refine Gr.drew ?_) | (with_reducible refine Gr.drewN ?_ _) | (with_reducible refine Gr.alloc ?_ _) | ((with_reducible refine Gr.setCell ?_ ?_ _); rotate_left; focus (simp <;> omega)))
  · repeat (first | (with_reducible exact Gr.refl _) | (with_reducible refine Gr.drew ?_) | (with_reducible refine Gr.drewN ?_ _) | (with_reducible refine Gr.alloc ?_ _) | ((with_reducible refine Gr.setCell ?_ ?_ _); rotate_left; focus (simp <;> omega)))

set_option maxRecDepth 100000 in
set_option maxHeartbeats 2000000 in
theorem rdo_swap_miss (b off : Nat) (cap : Nat) (B : Bk) (n : Nat) (via old v had : Int) (w : World) (hv : Words w (.slice (some ⟨b, off, none⟩) B.cells.length cap) B.cells) (hn : n < B.cells.length) (hh : w.cell? ⟨b, off + n, none⟩ = some (.int .u64 had)) (hget : B.cells.getD n 0 = had) (hl : B.cells.length ≤ 100) (f1 : (had == old) = false) :
    Calls Try.prog 57 #[rval (.slice (some ⟨b, off, none⟩) B.cells.length cap) B.count B.last, .int .i64 3, .int .i64 n, .int .u64 via, .int .u64 old, .int .u64 v] w (RDone w (.slice (some ⟨b, off, none⟩) B.cells.length cap) (B.done 3 n via had had false)) := by
  have HV := hid hv
  have HG := hid hget
  have hlb : b < w.heap.size := lt_of_cell hh
  have hn' : (n : Int) < B.cells.length := by omega
  have hn0 : 0 ≤ (n : Int) := by omega
  have hb1 : b < w.heap.size + 1 := by omega
  have hb2 : b < w.heap.size + 2 := by omega
  have hb3 : b < w.heap.size + 3 := by omega
  have hb4 : b < w.heap.size + 4 := by omega
  have hb5 : b < w.heap.size + 5 := by omega
  unfold rval
  clear hv hget
  go_enter Try.func57, Try.ntmps57
  go_wp2_with fail
  go_region
  go_wp2
  refine bodyPost_ret (v := .tuple #[rval (.slice (some ⟨b, off, none⟩) B.cells.length cap) (B.done 3 n via had had false).count (B.done 3 n via had had false).last, (B.done 3 n via had had false).last.val]) (by simp [results, Try.results57, go_sem, rval, Acc.val, Bk.done]) rfl ⟨_, rfl, ?_, ?_, .inl rfl⟩
  · show Words _ _ (B.cells.set n had)
    rw [set_same hn (HG.out)]
    refine HV.out.gr ?_
    repeat (first | (with_reducible exact Gr.refl _) | (with_reducible refine Gr.drew ?_) | (with_reducible refine Gr.drewN ?_ _) | (with_reducible refine Gr.alloc ?_ _) | ((with_reducible refine Gr.setCell ?_ ?_ _); rotate_left; focus (simp <;> omega)))
  · repeat (first | (with_reducible exact Gr.refl _) | (with_reducible refine Gr.drew ?_) | (with_reducible refine Gr.drewN ?_ _) | (with_reducible refine Gr.alloc ?_ _) | ((with_reducible refine Gr.setCell ?_ ?_ _); rotate_left; focus (simp <;> omega)))

set_option maxRecDepth 100000 in
set_option maxHeartbeats 2000000 in
theorem rdo_add (b off : Nat) (cap : Nat) (B : Bk) (n : Nat) (via old v had : Int) (w : World) (hv : Words w (.slice (some ⟨b, off, none⟩) B.cells.length cap) B.cells) (hn : n < B.cells.length) (hh : w.cell? ⟨b, off + n, none⟩ = some (.int .u64 had)) (hget : B.cells.getD n 0 = had) (hl : B.cells.length ≤ 100) (f1 : (IntKind.u64.wrap (had + v) != had) = true) :
    Calls Try.prog 57 #[rval (.slice (some ⟨b, off, none⟩) B.cells.length cap) B.count B.last, .int .i64 4, .int .i64 n, .int .u64 via, .int .u64 old, .int .u64 v] w (RDone w (.slice (some ⟨b, off, none⟩) B.cells.length cap) (B.done 4 n via had (IntKind.u64.wrap (had + v)) true)) := by
  have HV := hid hv
  have HG := hid hget
  have hlb : b < w.heap.size := lt_of_cell hh
  have hn' : (n : Int) < B.cells.length := by omega
  have hn0 : 0 ≤ (n : Int) := by omega
  have hb1 : b < w.heap.size + 1 := by omega
  have hb2 : b < w.heap.size + 2 := by omega
  have hb3 : b < w.heap.size + 3 := by omega
  have hb4 : b < w.heap.size + 4 := by omega
  have hb5 : b < w.heap.size + 5 := by omega
  unfold rval
  clear hv hget
  go_enter Try.func57, Try.ntmps57
  go_wp2_with (with_reducible refine wpList_append_words rfl (.tmp 76) (.tmp 78) 37 rfl Try.underlying37 info22 (w.heap.size + 1 + 1 + 1 + 1 + 1) B.cells _ rfl rfl ?c1 ?c2 ?c3 ?_)
  case c1 => exact Blk.new' (by simp)
  case c2 => exact HV.out.gr ((((((Gr.refl w).alloc _).alloc _).alloc _).alloc _).alloc _ |>.alloc _)
  case c3 => omega
  intro q cap1 cur w1 hq ho c1
  have GW := hid (Gr.step (a := w) (by repeat (first | exact Gr.refl _ | refine Gr.alloc ?_ _)) c1 (by rintro i rfl; omega))
  have hqs := ho.out.blk.lt
  have hs0 := c1.size
  simp only [World.size_alloc] at hs0
  have X : Blk w1 (w.heap.size + 1) #[.slice none 0 0, .int .i64 0, .int .i64 0, .int .i64 0, .int .u64 0, .int .u64 0, .int .u64 0, .bool false] 42 := Blk.chg (by repeat (first | exact Blk.new' (by simp) | refine Blk.alloc ?_ _)) c1 (by simp <;> omega)
  have x0 : w1.cell? ⟨w.heap.size + 1, 0, none⟩ = some (.slice none 0 0) := X.cell rfl
  have x1 : w1.cell? ⟨w.heap.size + 1, 1, none⟩ = some (.int .i64 0) := X.cell rfl
  have x2 : w1.cell? ⟨w.heap.size + 1, 2, none⟩ = some (.int .i64 0) := X.cell rfl
  have x3 : w1.cell? ⟨w.heap.size + 1, 3, none⟩ = some (.int .i64 0) := X.cell rfl
  have x4 : w1.cell? ⟨w.heap.size + 1, 4, none⟩ = some (.int .u64 0) := X.cell rfl
  have x5 : w1.cell? ⟨w.heap.size + 1, 5, none⟩ = some (.int .u64 0) := X.cell rfl
  have x6 : w1.cell? ⟨w.heap.size + 1, 6, none⟩ = some (.int .u64 0) := X.cell rfl
  have x7 : w1.cell? ⟨w.heap.size + 1, 7, none⟩ = some (.bool false) := X.cell rfl
  have xf := X.free
  have Y : Blk w1 (w.heap.size + 1 + 1) #[.int .i64 0, .int .i64 0, .int .u64 0, .int .u64 0, .int .u64 0, .bool false] 40 := Blk.chg (by repeat (first | exact Blk.new' (by simp) | refine Blk.alloc ?_ _)) c1 (by simp <;> omega)
  have y0 : w1.cell? ⟨w.heap.size + 1 + 1, 0, none⟩ = some (.int .i64 0) := Y.cell rfl
  have y1 : w1.cell? ⟨w.heap.size + 1 + 1, 1, none⟩ = some (.int .i64 0) := Y.cell rfl
  have y2 : w1.cell? ⟨w.heap.size + 1 + 1, 2, none⟩ = some (.int .u64 0) := Y.cell rfl
  have y3 : w1.cell? ⟨w.heap.size + 1 + 1, 3, none⟩ = some (.int .u64 0) := Y.cell rfl
  have y4 : w1.cell? ⟨w.heap.size + 1 + 1, 4, none⟩ = some (.int .u64 0) := Y.cell rfl
  have y5 : w1.cell? ⟨w.heap.size + 1 + 1, 5, none⟩ = some (.bool false) := Y.cell rfl
  have yf := Y.free
  have Z : Blk w1 (w.heap.size + 1 + 1 + 1) #[.int .i64 4, .int .i64 n, .int .u64 via, .int .u64 had, .int .u64 (IntKind.u64.wrap (had + v)), .bool true] 40 := Blk.chg (by repeat (first | exact Blk.new' (by simp) | refine Blk.alloc ?_ _)) c1 (by simp <;> omega)
  have z0 : w1.cell? ⟨w.heap.size + 1 + 1 + 1, 0, none⟩ = some (.int .i64 4) := Z.cell rfl
  have z1 : w1.cell? ⟨w.heap.size + 1 + 1 + 1, 1, none⟩ = some (.int .i64 n) := Z.cell rfl
  have z2 : w1.cell? ⟨w.heap.size + 1 + 1 + 1, 2, none⟩ = some (.int .u64 via) := Z.cell rfl
  have z3 : w1.cell? ⟨w.heap.size + 1 + 1 + 1, 3, none⟩ = some (.int .u64 had) := Z.cell rfl
  have z4 : w1.cell? ⟨w.heap.size + 1 + 1 + 1, 4, none⟩ = some (.int .u64 (IntKind.u64.wrap (had + v))) := Z.cell rfl
  have z5 : w1.cell? ⟨w.heap.size + 1 + 1 + 1, 5, none⟩ = some (.bool true) := Z.cell rfl
  have zf := Z.free
  have U : Blk w1 (w.heap.size + 1 + 1 + 1 + 1) #[.slice (some ⟨b, off, none⟩) B.cells.length cap, .int .i64 (wrap64 (B.count + 1)), .int .i64 0, .int .i64 0, .int .u64 0, .int .u64 0, .int .u64 0, .bool false] 42 := Blk.chg (by repeat (first | exact Blk.new' (by simp) | refine Blk.alloc ?_ _)) c1 (by simp <;> omega)
  have u0 : w1.cell? ⟨w.heap.size + 1 + 1 + 1 + 1, 0, none⟩ = some (.slice (some ⟨b, off, none⟩) B.cells.length cap) := U.cell rfl
  have u1 : w1.cell? ⟨w.heap.size + 1 + 1 + 1 + 1, 1, none⟩ = some (.int .i64 (wrap64 (B.count + 1))) := U.cell rfl
  have u2 : w1.cell? ⟨w.heap.size + 1 + 1 + 1 + 1, 2, none⟩ = some (.int .i64 0) := U.cell rfl
  have u3 : w1.cell? ⟨w.heap.size + 1 + 1 + 1 + 1, 3, none⟩ = some (.int .i64 0) := U.cell rfl
  have u4 : w1.cell? ⟨w.heap.size + 1 + 1 + 1 + 1, 4, none⟩ = some (.int .u64 0) := U.cell rfl
  have u5 : w1.cell? ⟨w.heap.size + 1 + 1 + 1 + 1, 5, none⟩ = some (.int .u64 0) := U.cell rfl
  have u6 : w1.cell? ⟨w.heap.size + 1 + 1 + 1 + 1, 6, none⟩ = some (.int .u64 0) := U.cell rfl
  have u7 : w1.cell? ⟨w.heap.size + 1 + 1 + 1 + 1, 7, none⟩ = some (.bool false) := U.cell rfl
  have uf := U.free
  have hnq : ∀ i, i ≤ 5 → w.heap.size + i ≠ q ∨ i = 5 := by intro i hi; omega
  have qq := ho.out.blk.free
  have qn := ho.out.blk.cell (ho.out.get n hn)
  go_wp2
  go_region
  go_wp2
  refine bodyPost_ret (v := .tuple #[rval (.slice (some ⟨q, 0, none⟩) B.cells.length cap1) (B.done 4 n via had (IntKind.u64.wrap (had + v)) true).count (B.done 4 n via had (IntKind.u64.wrap (had + v)) true).last, (B.done 4 n via had (IntKind.u64.wrap (had + v)) true).last.val]) (res57 _ (w.heap.size + 1) (w.heap.size + 1 + 1) _ _ _ _ _ ⟨_, _, _, rfl⟩ rfl rfl ?_ ?_) rfl ⟨_, rfl, ?_, ?_, .inr (by intro a n c e; cases e; show w.heap.size ≤ q; omega)⟩
  · refine Blk.of_eq (c := (((((((((#[.slice none 0 0, .int .i64 0, .int .i64 0, .int .i64 0, .int .u64 0, .int .u64 0, .int .u64 0, .bool false] : Array Value).setIfInBounds 0 (.slice (some ⟨q, 0, none⟩) B.cells.length cap1)).setIfInBounds 1 (.int .i64 (wrap64 (B.count + 1)))).setIfInBounds 2 (.int .i64 4)).setIfInBounds 3 (.int .i64 n)).setIfInBounds 4 (.int .u64 via)).setIfInBounds 5 (.int .u64 had)).setIfInBounds 6 (.int .u64 (IntKind.u64.wrap (had + v)))).setIfInBounds 7 (.bool true))) ?hx ?ex
    case hx => repeat (first | (with_reducible exact X) | (with_reducible refine Blk.set ?_ _ _) | (with_reducible refine Blk.drew ?_) | ((with_reducible refine Blk.set_other ?_ ?_ _); rotate_left; focus (simp <;> omega)))
    case ex => rfl
  · refine Blk.of_eq (c := (((((((#[.int .i64 0, .int .i64 0, .int .u64 0, .int .u64 0, .int .u64 0, .bool false] : Array Value).setIfInBounds 0 (.int .i64 4)).setIfInBounds 1 (.int .i64 n)).setIfInBounds 2 (.int .u64 via)).setIfInBounds 3 (.int .u64 had)).setIfInBounds 4 (.int .u64 (IntKind.u64.wrap (had + v)))).setIfInBounds 5 (.bool true))) ?hy ?ey
    case hy => repeat (first | (with_reducible exact Y) | (with_reducible refine Blk.set ?_ _ _) | (with_reducible refine Blk.drew ?_) | ((with_reducible refine Blk.set_other ?_ ?_ _); rotate_left; focus (simp <;> omega)))
    case ey => rfl
  · show Words _ _ (B.cells.set n (IntKind.u64.wrap (had + v)))
    have hlen : B.cells.length = (B.cells.set n (IntKind.u64.wrap (had + v))).length := List.length_set.symm
    rw [hlen]
    refine OwnWords.words (cur := cur.setIfInBounds n (.int .u64 (IntKind.u64.wrap (had + v)))) ?_
    repeat (first | (with_reducible exact ho.out) | (with_reducible refine OwnWords.set ?_ _ _) | (with_reducible refine OwnWords.drew ?_) | ((with_reducible refine OwnWords.set_other ?_ ?_ _); rotate_left; focus (simp <;> omega)))
  · repeat (first | (with_reducible exact GW.out) | (with_reducible refine Gr.drew ?_) | (with_reducible refine Gr.drewN ?_ _) | ((with_reducible refine Gr.setCell ?_ ?_ _); rotate_left; focus (simp <;> omega)))

set_option maxRecDepth 100000 in
set_option maxHeartbeats 2000000 in
theorem rdo_add_same (b off : Nat) (cap : Nat) (B : Bk) (n : Nat) (via old v had : Int) (w : World) (hv : Words w (.slice (some ⟨b, off, none⟩) B.cells.length cap) B.cells) (hn : n < B.cells.length) (hh : w.cell? ⟨b, off + n, none⟩ = some (.int .u64 had)) (hget : B.cells.getD n 0 = had) (hl : B.cells.length ≤ 100) (f1 : (IntKind.u64.wrap (had + v) != had) = false) :
    Calls Try.prog 57 #[rval (.slice (some ⟨b, off, none⟩) B.cells.length cap) B.count B.last, .int .i64 4, .int .i64 n, .int .u64 via, .int .u64 old, .int .u64 v] w (RDone w (.slice (some ⟨b, off, none⟩) B.cells.length cap) (B.done 4 n via had (IntKind.u64.wrap (had + v)) true)) := by
  have HV := hid hv
  have HG := hid hget
  have HE := hid (bne_eq_false_iff_eq.1 f1)
  have hlb : b < w.heap.size := lt_of_cell hh
  have hn' : (n : Int) < B.cells.length := by omega
  have hn0 : 0 ≤ (n : Int) := by omega
  have hb1 : b < w.heap.size + 1 := by omega
  have hb2 : b < w.heap.size + 2 := by omega
  have hb3 : b < w.heap.size + 3 := by omega
  have hb4 : b < w.heap.size + 4 := by omega
  have hb5 : b < w.heap.size + 5 := by omega
  unfold rval
  clear hv hget
  go_enter Try.func57, Try.ntmps57
  go_wp2_with fail
  go_region
  go_wp2
  refine bodyPost_ret (v := .tuple #[rval (.slice (some ⟨b, off, none⟩) B.cells.length cap) (B.done 4 n via had (IntKind.u64.wrap (had + v)) true).count (B.done 4 n via had (IntKind.u64.wrap (had + v)) true).last, (B.done 4 n via had (IntKind.u64.wrap (had + v)) true).last.val]) (by simp [results, Try.results57, go_sem, rval, Acc.val, Bk.done]) rfl ⟨_, rfl, ?_, ?_, .inl rfl⟩
  · show Words _ _ (B.cells.set n (IntKind.u64.wrap (had + v)))
    rw [set_same hn (HG.out.trans HE.out.symm)]
    refine HV.out.gr ?_
    repeat (first | (with_reducible exact Gr.refl _) | (with_reducible refine Gr.drew ?_) | (with_reducible refine Gr.drewN ?_ _) | (with_reducible refine Gr.alloc ?_ _) | ((with_reducible refine Gr.setCell ?_ ?_ _); rotate_left; focus (simp <;> omega)))
  · repeat (first | (with_reducible exact Gr.refl _) | (with_reducible refine Gr.drew ?_) | (with_reducible refine Gr.drewN ?_ _) | (with_reducible refine Gr.alloc ?_ _) | ((with_reducible refine Gr.setCell ?_ ?_ _); rotate_left; focus (simp <;> omega)))

end Go.Proofs.Ytojlaekckkelhaa
