/-
  The reference's accesses, whatever the cell.
-/
import Derived.Test.YtojlaekckkelhaaBi
namespace Go.Proofs.Ytojlaekckkelhaa
set_option linter.unusedVariables false
set_option linter.unusedSimpArgs false
open Go.RowKit

/-- Where a slice's word stands. -/
theorem Words.open_at {w : World} {s : Value} {l : List Int} (h : Words w s l) {n : Nat} (hn : n < l.length) :
    ∃ b off cap : Nat, s = .slice (some ⟨b, off, none⟩) l.length cap ∧ Words w (.slice (some ⟨b, off, none⟩) l.length cap) l ∧ w.cell? ⟨b, off + n, none⟩ = some (.int .u64 (l.getD n 0)) := by
  obtain ⟨a, cap, rfl⟩ := h.addr (by rintro rfl; simp at hn)
  obtain ⟨b, off, rfl, _, hc⟩ := h.at hn
  exact ⟨b, off, cap, rfl, h, hc⟩

theorem rdo_out (s : Value) (B : Bk) (kind cell via old v : Int) (w : World) (hv : Words w s B.cells) (h : B.has cell = false) :
    Calls Try.prog 57 #[rval s B.count B.last, .int .i64 kind, .int .i64 cell, .int .u64 via, .int .u64 old, .int .u64 v] w (RDone w s (B.none kind cell via)) := by
  have h1 := of_decide_eq_false h
  obtain ⟨a, cap, rfl⟩ := hv.slice
  by_cases h0 : cell < 0
  · exact rdo_low a cap B kind cell via old v w hv h0
  · exact rdo_high a cap B kind cell via old v w hv (by omega) (by omega)

theorem rdo_load_any (s : Value) (B : Bk) (cell via : Int) (w : World) (hv : Words w s B.cells) (hl : B.cells.length ≤ 100) :
    Calls Try.prog 57 #[rval s B.count B.last, .int .i64 1, .int .i64 cell, .int .u64 via, .int .u64 0, .int .u64 0] w (RDone w s (B.load cell via)) := by
  by_cases h : B.has cell = true
  · obtain ⟨n, rfl, hn⟩ := Bk.has_nat h
    have e0 : B.load n via = B.done 1 n via (B.get n) (B.get n) true := if_pos h
    obtain ⟨b, off, cap, rfl, hv', hc⟩ := hv.open_at hn
    rw [e0]
    exact rdo_load b off cap B n via 0 0 (B.get n) w hv' hn hc rfl hl
  · have e0 : B.load cell via = B.none 1 cell via := if_neg h
    rw [e0]
    exact rdo_out s B 1 cell via 0 0 w hv (by simpa using h)

theorem rdo_store_any (s : Value) (B : Bk) (cell via v : Int) (w : World) (hv : Words w s B.cells) (hl : B.cells.length ≤ 100) :
    Calls Try.prog 57 #[rval s B.count B.last, .int .i64 2, .int .i64 cell, .int .u64 via, .int .u64 0, .int .u64 v] w (RDone w s (B.store cell via v)) := by
  by_cases h : B.has cell = true
  · obtain ⟨n, rfl, hn⟩ := Bk.has_nat h
    have e0 : B.store n via v = B.done 2 n via (B.get n) v true := if_pos h
    obtain ⟨b, off, cap, rfl, hv', hc⟩ := hv.open_at hn
    rw [e0]
    by_cases hvh : v = B.get n
    · subst hvh
      exact rdo_store_same b off cap B n via 0 (B.get n) w hv' hn hc rfl hl
    · exact rdo_store b off cap B n via 0 v (B.get n) w hv' hn hc rfl hl (by simpa using hvh)
  · have e0 : B.store cell via v = B.none 2 cell via := if_neg h
    rw [e0]
    exact rdo_out s B 2 cell via 0 v w hv (by simpa using h)

theorem rdo_swap_any (s : Value) (B : Bk) (cell via old v : Int) (w : World) (hv : Words w s B.cells) (hl : B.cells.length ≤ 100) :
    Calls Try.prog 57 #[rval s B.count B.last, .int .i64 3, .int .i64 cell, .int .u64 via, .int .u64 old, .int .u64 v] w (RDone w s (B.swap cell via old v)) := by
  by_cases h : B.has cell = true
  · obtain ⟨n, rfl, hn⟩ := Bk.has_nat h
    obtain ⟨b, off, cap, rfl, hv', hc⟩ := hv.open_at hn
    by_cases ho : B.get n = old
    · have e0 : B.swap n via old v = B.done 3 n via (B.get n) v true := by
        rw [Bk.swap, if_pos h, swapTo, if_pos ho, swapIs, decide_eq_true ho]; rfl
      rw [e0]
      subst ho
      by_cases hvh : v = B.get n
      · subst hvh
        exact rdo_swap_same b off cap B n via (B.get n) w hv' hn hc rfl hl
      · exact rdo_swap b off cap B n via v (B.get n) w hv' hn hc rfl hl (by simpa using hvh)
    · have e0 : B.swap n via old v = B.done 3 n via (B.get n) (B.get n) false := by
        rw [Bk.swap, if_pos h, swapTo, if_neg ho, swapIs, decide_eq_false ho]; rfl
      rw [e0]
      exact rdo_swap_miss b off cap B n via old v (B.get n) w hv' hn hc rfl hl (by simpa using ho)
  · have e0 : B.swap cell via old v = B.none 3 cell via := if_neg h
    rw [e0]
    exact rdo_out s B 3 cell via old v w hv (by simpa using h)

theorem rdo_add_any (s : Value) (B : Bk) (cell via v : Int) (w : World) (hv : Words w s B.cells) (hl : B.cells.length ≤ 100) :
    Calls Try.prog 57 #[rval s B.count B.last, .int .i64 4, .int .i64 cell, .int .u64 via, .int .u64 0, .int .u64 v] w (RDone w s (B.add cell via v)) := by
  by_cases h : B.has cell = true
  · obtain ⟨n, rfl, hn⟩ := Bk.has_nat h
    have e0 : B.add n via v = B.done 4 n via (B.get n) (IntKind.u64.wrap (B.get n + v)) true := if_pos h
    obtain ⟨b, off, cap, rfl, hv', hc⟩ := hv.open_at hn
    rw [e0]
    cases hne : (IntKind.u64.wrap (B.get n + v) != B.get n)
    · exact rdo_add_same b off cap B n via 0 v (B.get n) w hv' hn hc rfl hl hne
    · exact rdo_add b off cap B n via 0 v (B.get n) w hv' hn hc rfl hl hne
  · have e0 : B.add cell via v = B.none 4 cell via := if_neg h
    rw [e0]
    exact rdo_out s B 4 cell via 0 v w hv (by simpa using h)

/-- What a reference's access tells, and leaves. -/
def RTold (w : World) (s : Value) (B : Bk) (x : Value) (e : Ending) (w' : World) : Prop := ∃ s', e = .returned (.tuple #[rval s' B.count B.last, x]) ∧ Words w' s' B.cells ∧ Gr w w' ∧ Fresh w s s'
/-- What a reference's store leaves. -/
def RStored (w : World) (s : Value) (B : Bk) (e : Ending) (w' : World) : Prop := ∃ s', e = .returned (rval s' B.count B.last) ∧ Words w' s' B.cells ∧ Gr w w' ∧ Fresh w s s'

theorem Words.keep {F : Nat → Prop} {w w' : World} {v : Value} {l : List Int} (h : Words w v l) (g : Chg F w w') (hf : ∀ a n c, v = .slice (some a) n c → a.block < w.heap.size → ¬ F a.block) : Words w' v l := by
  rcases h with h | ⟨a, cap, e, hc, h⟩
  · exact .inl h
  · refine .inr ⟨a, cap, e, hc, fun i hi => ?_⟩
    have h0 := lt_of_cell (h 0 (by omega))
    exact g.cell (h i hi) (by have := hf a _ _ e (by simpa [Addr.add] using h0); simpa [Addr.add, apply_ite] using this)

/-- A slice that is fresh behind a call lies in no block that was made ahead of it. -/
theorem Fresh.apart {w0 w w1 : World} {s s' : Value} {l : List Int} (hf : Fresh w s s') (hv : Words w0 s l) (x : Nat) (hx : w0.heap.size ≤ x) (hxw : x < w.heap.size) (hl : l ≠ []) : ∀ a n c, s' = .slice (some a) n c → a.block ≠ x := by
  intro a n c e
  rcases hf with rfl | hf
  · rcases hv with ⟨e', _⟩ | ⟨a', cap, e', _, h⟩
    · rw [e] at e'; simp at e'
    · rw [e] at e'
      simp only [Value.slice.injEq, Option.some.injEq] at e'
      obtain ⟨rfl, _, _⟩ := e'
      have h0 := lt_of_cell (h 0 (List.length_pos_iff.2 hl))
      have h1 : a.block < w0.heap.size := by simpa [Addr.add] using h0
      omega
  · have := hf a n c e
    omega

theorem words_nil {w : World} {v : Value} {l : List Int} (h : Words w v l) (hl : l = []) (w' : World) : Words w' v l := by
  rcases h with h | ⟨a, cap, e, hc, h⟩
  · exact .inl h
  · exact .inr ⟨a, cap, e, hc, fun i hi => by rw [hl] at hi; simp at hi⟩

theorem res47 (t : Array Value) (x : Nat) (W : World) (s : Value) (k : Int) (a : Acc) (hs : ∃ p n c, s = .slice p n c) (hx : t.getD 6 undef = .pointer (some ⟨x, 0, none⟩)) (v0 : Value) (hv0 : t.getD 7 undef = v0)
    (bx : Blk W x #[s, .int .i64 k, .int .i64 a.kind, .int .i64 a.cell, .int .u64 a.via, .int .u64 a.old, .int .u64 a.new, .bool a.done] 42) :
    (results Try.f47 t).run Try.prog W = .ok (.tuple #[rval s k a, v0]) W := by
  obtain ⟨p, n, c, rfl⟩ := hs
  have x0 : W.cell? ⟨x, 0, none⟩ = some (.slice p n c) := bx.cell rfl
  have x1 : W.cell? ⟨x, 1, none⟩ = some (.int .i64 k) := bx.cell rfl
  have x2 : W.cell? ⟨x, 2, none⟩ = some (.int .i64 a.kind) := bx.cell rfl
  have x3 : W.cell? ⟨x, 3, none⟩ = some (.int .i64 a.cell) := bx.cell rfl
  have x4 : W.cell? ⟨x, 4, none⟩ = some (.int .u64 a.via) := bx.cell rfl
  have x5 : W.cell? ⟨x, 5, none⟩ = some (.int .u64 a.old) := bx.cell rfl
  have x6 : W.cell? ⟨x, 6, none⟩ = some (.int .u64 a.new) := bx.cell rfl
  have x7 : W.cell? ⟨x, 7, none⟩ = some (.bool a.done) := bx.cell rfl
  simp only [Array.getD_eq_getD_getElem?] at hx hv0
  simp [results, Try.results47, go_sem, rval, Acc.val, hx, hv0, x0, x1, x2, x3, x4, x5, x6, x7]

set_option maxHeartbeats 1000000 in
theorem rload_any (s : Value) (B : Bk) (cell via : Int) (w : World) (hv : Words w s B.cells) (hl : B.cells.length ≤ 100) :
    Calls Try.prog 47 #[rval s B.count B.last, .int .i64 cell, .int .u64 via] w (RTold w s (B.load cell via) (.int .u64 (B.load cell via).last.old)) := by
  obtain ⟨a, cap, rfl⟩ := hv.slice
  have HV := hid hv
  have hdo := fun w hv => rdo_load_any (.slice a B.cells.length cap) B cell via w hv hl
  have hlen : (B.load cell via).cells.length = B.cells.length := by unfold Bk.load; split <;> simp [Bk.done, Bk.none]
  generalize B.load cell via = B1 at *
  have HL := hid hlen
  unfold rval at hdo
  have HD := hid hdo
  unfold rval
  clear hv hdo hlen
  go_enter Try.func47, Try.ntmps47
  go_wp2_with fail
  refine (HD.out _ (HV.out.gr (((Gr.refl w).alloc _).alloc _))).mono ?_
  rintro e w1 ⟨s1, rfl, hw1, g1, hfr⟩
  obtain ⟨a1, cap1, rfl⟩ := hw1.slice
  have X := Blk.gr (Blk.new' (n := w.heap.size + 1) (by simp)) g1
  have x0 : w1.cell? ⟨w.heap.size + 1, 0, none⟩ = some (.slice none 0 0) := X.cell rfl
  have x1 : w1.cell? ⟨w.heap.size + 1, 1, none⟩ = some (.int .i64 0) := X.cell rfl
  have x2 : w1.cell? ⟨w.heap.size + 1, 2, none⟩ = some (.int .i64 0) := X.cell rfl
  have x3 : w1.cell? ⟨w.heap.size + 1, 3, none⟩ = some (.int .i64 0) := X.cell rfl
  have x4 : w1.cell? ⟨w.heap.size + 1, 4, none⟩ = some (.int .u64 0) := X.cell rfl
  have x5 : w1.cell? ⟨w.heap.size + 1, 5, none⟩ = some (.int .u64 0) := X.cell rfl
  have x6 : w1.cell? ⟨w.heap.size + 1, 6, none⟩ = some (.int .u64 0) := X.cell rfl
  have x7 : w1.cell? ⟨w.heap.size + 1, 7, none⟩ = some (.bool false) := X.cell rfl
  have xf := X.free
  have xl := X.lt
  have xl0 : w.heap.size < w1.heap.size := by omega
  have xl1 : w.heap.size + 1 < w1.heap.size + 1 := by omega
  have HW := hid hw1
  have HX := hid X
  have HG := hid ((((Gr.refl w).alloc _).alloc _).trans g1)
  have HF := hid hfr
  clear hw1 X g1 hfr
  unfold rval Acc.val
  go_wp2_with fail
  go_region
  go_wp2
  refine bodyPost_ret (v := .tuple #[rval (.slice a1 B1.cells.length cap1) B1.count B1.last, .int .u64 B1.last.old]) (res47 _ (w.heap.size + 1) _ _ _ _ ⟨_, _, _, rfl⟩ rfl _ rfl ?_) rfl ?_
  · refine Blk.of_eq (c := (((((((((#[.slice none 0 0, .int .i64 0, .int .i64 0, .int .i64 0, .int .u64 0, .int .u64 0, .int .u64 0, .bool false] : Array Value).setIfInBounds 0 (.slice a1 B1.cells.length cap1)).setIfInBounds 1 (.int .i64 B1.count)).setIfInBounds 2 (.int .i64 B1.last.kind)).setIfInBounds 3 (.int .i64 B1.last.cell)).setIfInBounds 4 (.int .u64 B1.last.via)).setIfInBounds 5 (.int .u64 B1.last.old)).setIfInBounds 6 (.int .u64 B1.last.new)).setIfInBounds 7 (.bool B1.last.done))) ?hx ?ex
    case hx => repeat (first | (with_reducible exact HX.out) | (with_reducible refine Blk.set ?_ _ _) | (with_reducible refine Blk.drew ?_) | (with_reducible refine Blk.alloc ?_ _) | ((with_reducible refine Blk.set_other ?_ ?_ _); rotate_left; focus (simp <;> omega)))
    case ex => rfl
  · have hc : ∀ W, Chg (· = w.heap.size + 1) w1 W → RTold w (.slice a B.cells.length cap) B1 (.int .u64 B1.last.old) (.returned (.tuple #[rval (.slice a1 B1.cells.length cap1) B1.count B1.last, .int .u64 B1.last.old])) W := by
      intro W hc
      refine ⟨_, rfl, ?_, HG.out.step hc (by rintro i rfl; omega), ?_⟩
      · by_cases hnil : B1.cells = []
        · exact words_nil HW.out hnil _
        · refine HW.out.keep hc fun b n c e _ => HF.out.apart (w1 := w1) HV.out (w.heap.size + 1) (by omega) (by simp) ?_ b n c e
          intro e0
          exact hnil (List.eq_nil_of_length_eq_zero (by rw [HL.out, e0]; rfl))
      · rcases HF.out with h | h
        · exact .inl h
        · exact .inr fun b n c e => by have := h b n c e; simp at this; omega
    apply hc
    repeat (first | (with_reducible exact Chg.refl _ _) | (with_reducible refine Chg.drew ?_) | (with_reducible refine Chg.alloc ?_ _) | ((with_reducible refine Chg.setCell ?_ ?_ _); rotate_left; focus (first | exact .inl rfl | (refine .inr ?_; simp <;> omega))))

theorem res48 (t : Array Value) (x : Nat) (W : World) (s : Value) (k : Int) (a : Acc) (hs : ∃ p n c, s = .slice p n c) (hx : t.getD 8 undef = .pointer (some ⟨x, 0, none⟩))
    (bx : Blk W x #[s, .int .i64 k, .int .i64 a.kind, .int .i64 a.cell, .int .u64 a.via, .int .u64 a.old, .int .u64 a.new, .bool a.done] 42) :
    (results Try.f48 t).run Try.prog W = .ok (rval s k a) W := by
  obtain ⟨p, n, c, rfl⟩ := hs
  have x0 : W.cell? ⟨x, 0, none⟩ = some (.slice p n c) := bx.cell rfl
  have x1 : W.cell? ⟨x, 1, none⟩ = some (.int .i64 k) := bx.cell rfl
  have x2 : W.cell? ⟨x, 2, none⟩ = some (.int .i64 a.kind) := bx.cell rfl
  have x3 : W.cell? ⟨x, 3, none⟩ = some (.int .i64 a.cell) := bx.cell rfl
  have x4 : W.cell? ⟨x, 4, none⟩ = some (.int .u64 a.via) := bx.cell rfl
  have x5 : W.cell? ⟨x, 5, none⟩ = some (.int .u64 a.old) := bx.cell rfl
  have x6 : W.cell? ⟨x, 6, none⟩ = some (.int .u64 a.new) := bx.cell rfl
  have x7 : W.cell? ⟨x, 7, none⟩ = some (.bool a.done) := bx.cell rfl
  simp only [Array.getD_eq_getD_getElem?] at hx 
  simp [results, Try.results48, go_sem, rval, Acc.val, hx, x0, x1, x2, x3, x4, x5, x6, x7]

set_option maxHeartbeats 1000000 in
theorem rstore_any (s : Value) (B : Bk) (cell via v : Int) (w : World) (hv : Words w s B.cells) (hl : B.cells.length ≤ 100) :
    Calls Try.prog 48 #[rval s B.count B.last, .int .i64 cell, .int .u64 via, .int .u64 v] w (RStored w s (B.store cell via v)) := by
  obtain ⟨a, cap, rfl⟩ := hv.slice
  have HV := hid hv
  have hdo := fun w hv => rdo_store_any (.slice a B.cells.length cap) B cell via v w hv hl
  have hlen : (B.store cell via v).cells.length = B.cells.length := by unfold Bk.store; split <;> simp [Bk.done, Bk.none]
  generalize B.store cell via v = B1 at *
  have HL := hid hlen
  unfold rval at hdo
  have HD := hid hdo
  unfold rval
  clear hv hdo hlen
  go_enter Try.func48, Try.ntmps48
  go_wp2_with fail
  refine (HD.out _ (HV.out.gr (((Gr.refl w).alloc _).alloc _))).mono ?_
  rintro e w1 ⟨s1, rfl, hw1, g1, hfr⟩
  obtain ⟨a1, cap1, rfl⟩ := hw1.slice
  have X := Blk.gr (Blk.new' (n := w.heap.size + 1) (by simp)) g1
  have x0 : w1.cell? ⟨w.heap.size + 1, 0, none⟩ = some (.slice none 0 0) := X.cell rfl
  have x1 : w1.cell? ⟨w.heap.size + 1, 1, none⟩ = some (.int .i64 0) := X.cell rfl
  have x2 : w1.cell? ⟨w.heap.size + 1, 2, none⟩ = some (.int .i64 0) := X.cell rfl
  have x3 : w1.cell? ⟨w.heap.size + 1, 3, none⟩ = some (.int .i64 0) := X.cell rfl
  have x4 : w1.cell? ⟨w.heap.size + 1, 4, none⟩ = some (.int .u64 0) := X.cell rfl
  have x5 : w1.cell? ⟨w.heap.size + 1, 5, none⟩ = some (.int .u64 0) := X.cell rfl
  have x6 : w1.cell? ⟨w.heap.size + 1, 6, none⟩ = some (.int .u64 0) := X.cell rfl
  have x7 : w1.cell? ⟨w.heap.size + 1, 7, none⟩ = some (.bool false) := X.cell rfl
  have xf := X.free
  have xl := X.lt
  have xl0 : w.heap.size < w1.heap.size := by omega
  have xl1 : w.heap.size + 1 < w1.heap.size + 1 := by omega
  have HW := hid hw1
  have HX := hid X
  have HG := hid ((((Gr.refl w).alloc _).alloc _).trans g1)
  have HF := hid hfr
  clear hw1 X g1 hfr
  unfold rval Acc.val
  go_wp2_with fail
  refine bodyPost_ret (v := rval (.slice a1 B1.cells.length cap1) B1.count B1.last) (res48 _ (w.heap.size + 1) _ _ _ _ ⟨_, _, _, rfl⟩ rfl ?_) rfl ?_
  · refine Blk.of_eq (c := (((((((((#[.slice none 0 0, .int .i64 0, .int .i64 0, .int .i64 0, .int .u64 0, .int .u64 0, .int .u64 0, .bool false] : Array Value).setIfInBounds 0 (.slice a1 B1.cells.length cap1)).setIfInBounds 1 (.int .i64 B1.count)).setIfInBounds 2 (.int .i64 B1.last.kind)).setIfInBounds 3 (.int .i64 B1.last.cell)).setIfInBounds 4 (.int .u64 B1.last.via)).setIfInBounds 5 (.int .u64 B1.last.old)).setIfInBounds 6 (.int .u64 B1.last.new)).setIfInBounds 7 (.bool B1.last.done))) ?hx ?ex
    case hx => repeat (first | (with_reducible exact HX.out) | (with_reducible refine Blk.set ?_ _ _) | (with_reducible refine Blk.drew ?_) | (with_reducible refine Blk.alloc ?_ _) | ((with_reducible refine Blk.set_other ?_ ?_ _); rotate_left; focus (simp <;> omega)))
    case ex => rfl
  · have hc : ∀ W, Chg (· = w.heap.size + 1) w1 W → RStored w (.slice a B.cells.length cap) B1 (.returned (rval (.slice a1 B1.cells.length cap1) B1.count B1.last)) W := by
      intro W hc
      refine ⟨_, rfl, ?_, HG.out.step hc (by rintro i rfl; omega), ?_⟩
      · by_cases hnil : B1.cells = []
        · exact words_nil HW.out hnil _
        · refine HW.out.keep hc fun b n c e _ => HF.out.apart (w1 := w1) HV.out (w.heap.size + 1) (by omega) (by simp) ?_ b n c e
          intro e0
          exact hnil (List.eq_nil_of_length_eq_zero (by rw [HL.out, e0]; rfl))
      · rcases HF.out with h | h
        · exact .inl h
        · exact .inr fun b n c e => by have := h b n c e; simp at this; omega
    apply hc
    repeat (first | (with_reducible exact Chg.refl _ _) | (with_reducible refine Chg.drew ?_) | (with_reducible refine Chg.alloc ?_ _) | ((with_reducible refine Chg.setCell ?_ ?_ _); rotate_left; focus (first | exact .inl rfl | (refine .inr ?_; simp <;> omega))))

theorem res49 (t : Array Value) (x : Nat) (W : World) (s : Value) (k : Int) (a : Acc) (hs : ∃ p n c, s = .slice p n c) (hx : t.getD 10 undef = .pointer (some ⟨x, 0, none⟩)) (v0 : Value) (hv0 : t.getD 11 undef = v0)
    (bx : Blk W x #[s, .int .i64 k, .int .i64 a.kind, .int .i64 a.cell, .int .u64 a.via, .int .u64 a.old, .int .u64 a.new, .bool a.done] 42) :
    (results Try.f49 t).run Try.prog W = .ok (.tuple #[rval s k a, v0]) W := by
  obtain ⟨p, n, c, rfl⟩ := hs
  have x0 : W.cell? ⟨x, 0, none⟩ = some (.slice p n c) := bx.cell rfl
  have x1 : W.cell? ⟨x, 1, none⟩ = some (.int .i64 k) := bx.cell rfl
  have x2 : W.cell? ⟨x, 2, none⟩ = some (.int .i64 a.kind) := bx.cell rfl
  have x3 : W.cell? ⟨x, 3, none⟩ = some (.int .i64 a.cell) := bx.cell rfl
  have x4 : W.cell? ⟨x, 4, none⟩ = some (.int .u64 a.via) := bx.cell rfl
  have x5 : W.cell? ⟨x, 5, none⟩ = some (.int .u64 a.old) := bx.cell rfl
  have x6 : W.cell? ⟨x, 6, none⟩ = some (.int .u64 a.new) := bx.cell rfl
  have x7 : W.cell? ⟨x, 7, none⟩ = some (.bool a.done) := bx.cell rfl
  simp only [Array.getD_eq_getD_getElem?] at hx hv0
  simp [results, Try.results49, go_sem, rval, Acc.val, hx, hv0, x0, x1, x2, x3, x4, x5, x6, x7]

set_option maxHeartbeats 1000000 in
theorem rswap_any (s : Value) (B : Bk) (cell via old v : Int) (w : World) (hv : Words w s B.cells) (hl : B.cells.length ≤ 100) :
    Calls Try.prog 49 #[rval s B.count B.last, .int .i64 cell, .int .u64 via, .int .u64 old, .int .u64 v] w (RTold w s (B.swap cell via old v) (.bool (B.swap cell via old v).last.done)) := by
  obtain ⟨a, cap, rfl⟩ := hv.slice
  have HV := hid hv
  have hdo := fun w hv => rdo_swap_any (.slice a B.cells.length cap) B cell via old v w hv hl
  have hlen : (B.swap cell via old v).cells.length = B.cells.length := by unfold Bk.swap; split <;> simp [Bk.done, Bk.none]
  generalize B.swap cell via old v = B1 at *
  have HL := hid hlen
  unfold rval at hdo
  have HD := hid hdo
  unfold rval
  clear hv hdo hlen
  go_enter Try.func49, Try.ntmps49
  go_wp2_with fail
  refine (HD.out _ (HV.out.gr (((Gr.refl w).alloc _).alloc _))).mono ?_
  rintro e w1 ⟨s1, rfl, hw1, g1, hfr⟩
  obtain ⟨a1, cap1, rfl⟩ := hw1.slice
  have X := Blk.gr (Blk.new' (n := w.heap.size + 1) (by simp)) g1
  have x0 : w1.cell? ⟨w.heap.size + 1, 0, none⟩ = some (.slice none 0 0) := X.cell rfl
  have x1 : w1.cell? ⟨w.heap.size + 1, 1, none⟩ = some (.int .i64 0) := X.cell rfl
  have x2 : w1.cell? ⟨w.heap.size + 1, 2, none⟩ = some (.int .i64 0) := X.cell rfl
  have x3 : w1.cell? ⟨w.heap.size + 1, 3, none⟩ = some (.int .i64 0) := X.cell rfl
  have x4 : w1.cell? ⟨w.heap.size + 1, 4, none⟩ = some (.int .u64 0) := X.cell rfl
  have x5 : w1.cell? ⟨w.heap.size + 1, 5, none⟩ = some (.int .u64 0) := X.cell rfl
  have x6 : w1.cell? ⟨w.heap.size + 1, 6, none⟩ = some (.int .u64 0) := X.cell rfl
  have x7 : w1.cell? ⟨w.heap.size + 1, 7, none⟩ = some (.bool false) := X.cell rfl
  have xf := X.free
  have xl := X.lt
  have xl0 : w.heap.size < w1.heap.size := by omega
  have xl1 : w.heap.size + 1 < w1.heap.size + 1 := by omega
  have HW := hid hw1
  have HX := hid X
  have HG := hid ((((Gr.refl w).alloc _).alloc _).trans g1)
  have HF := hid hfr
  clear hw1 X g1 hfr
  unfold rval Acc.val
  go_wp2_with fail
  go_region
  go_wp2
  refine bodyPost_ret (v := .tuple #[rval (.slice a1 B1.cells.length cap1) B1.count B1.last, .bool B1.last.done]) (res49 _ (w.heap.size + 1) _ _ _ _ ⟨_, _, _, rfl⟩ rfl _ rfl ?_) rfl ?_
  · refine Blk.of_eq (c := (((((((((#[.slice none 0 0, .int .i64 0, .int .i64 0, .int .i64 0, .int .u64 0, .int .u64 0, .int .u64 0, .bool false] : Array Value).setIfInBounds 0 (.slice a1 B1.cells.length cap1)).setIfInBounds 1 (.int .i64 B1.count)).setIfInBounds 2 (.int .i64 B1.last.kind)).setIfInBounds 3 (.int .i64 B1.last.cell)).setIfInBounds 4 (.int .u64 B1.last.via)).setIfInBounds 5 (.int .u64 B1.last.old)).setIfInBounds 6 (.int .u64 B1.last.new)).setIfInBounds 7 (.bool B1.last.done))) ?hx ?ex
    case hx => repeat (first | (with_reducible exact HX.out) | (with_reducible refine Blk.set ?_ _ _) | (with_reducible refine Blk.drew ?_) | (with_reducible refine Blk.alloc ?_ _) | ((with_reducible refine Blk.set_other ?_ ?_ _); rotate_left; focus (simp <;> omega)))
    case ex => rfl
  · have hc : ∀ W, Chg (· = w.heap.size + 1) w1 W → RTold w (.slice a B.cells.length cap) B1 (.bool B1.last.done) (.returned (.tuple #[rval (.slice a1 B1.cells.length cap1) B1.count B1.last, .bool B1.last.done])) W := by
      intro W hc
      refine ⟨_, rfl, ?_, HG.out.step hc (by rintro i rfl; omega), ?_⟩
      · by_cases hnil : B1.cells = []
        · exact words_nil HW.out hnil _
        · refine HW.out.keep hc fun b n c e _ => HF.out.apart (w1 := w1) HV.out (w.heap.size + 1) (by omega) (by simp) ?_ b n c e
          intro e0
          exact hnil (List.eq_nil_of_length_eq_zero (by rw [HL.out, e0]; rfl))
      · rcases HF.out with h | h
        · exact .inl h
        · exact .inr fun b n c e => by have := h b n c e; simp at this; omega
    apply hc
    repeat (first | (with_reducible exact Chg.refl _ _) | (with_reducible refine Chg.drew ?_) | (with_reducible refine Chg.alloc ?_ _) | ((with_reducible refine Chg.setCell ?_ ?_ _); rotate_left; focus (first | exact .inl rfl | (refine .inr ?_; simp <;> omega))))

theorem res50 (t : Array Value) (x : Nat) (W : World) (s : Value) (k : Int) (a : Acc) (hs : ∃ p n c, s = .slice p n c) (hx : t.getD 8 undef = .pointer (some ⟨x, 0, none⟩)) (v0 : Value) (hv0 : t.getD 9 undef = v0)
    (bx : Blk W x #[s, .int .i64 k, .int .i64 a.kind, .int .i64 a.cell, .int .u64 a.via, .int .u64 a.old, .int .u64 a.new, .bool a.done] 42) :
    (results Try.f50 t).run Try.prog W = .ok (.tuple #[rval s k a, v0]) W := by
  obtain ⟨p, n, c, rfl⟩ := hs
  have x0 : W.cell? ⟨x, 0, none⟩ = some (.slice p n c) := bx.cell rfl
  have x1 : W.cell? ⟨x, 1, none⟩ = some (.int .i64 k) := bx.cell rfl
  have x2 : W.cell? ⟨x, 2, none⟩ = some (.int .i64 a.kind) := bx.cell rfl
  have x3 : W.cell? ⟨x, 3, none⟩ = some (.int .i64 a.cell) := bx.cell rfl
  have x4 : W.cell? ⟨x, 4, none⟩ = some (.int .u64 a.via) := bx.cell rfl
  have x5 : W.cell? ⟨x, 5, none⟩ = some (.int .u64 a.old) := bx.cell rfl
  have x6 : W.cell? ⟨x, 6, none⟩ = some (.int .u64 a.new) := bx.cell rfl
  have x7 : W.cell? ⟨x, 7, none⟩ = some (.bool a.done) := bx.cell rfl
  simp only [Array.getD_eq_getD_getElem?] at hx hv0
  simp [results, Try.results50, go_sem, rval, Acc.val, hx, hv0, x0, x1, x2, x3, x4, x5, x6, x7]

set_option maxHeartbeats 1000000 in
theorem radd_any (s : Value) (B : Bk) (cell via v : Int) (w : World) (hv : Words w s B.cells) (hl : B.cells.length ≤ 100) :
    Calls Try.prog 50 #[rval s B.count B.last, .int .i64 cell, .int .u64 via, .int .u64 v] w (RTold w s (B.add cell via v) (.int .u64 (B.add cell via v).last.old)) := by
  obtain ⟨a, cap, rfl⟩ := hv.slice
  have HV := hid hv
  have hdo := fun w hv => rdo_add_any (.slice a B.cells.length cap) B cell via v w hv hl
  have hlen : (B.add cell via v).cells.length = B.cells.length := by unfold Bk.add; split <;> simp [Bk.done, Bk.none]
  generalize B.add cell via v = B1 at *
  have HL := hid hlen
  unfold rval at hdo
  have HD := hid hdo
  unfold rval
  clear hv hdo hlen
  go_enter Try.func50, Try.ntmps50
  go_wp2_with fail
  refine (HD.out _ (HV.out.gr (((Gr.refl w).alloc _).alloc _))).mono ?_
  rintro e w1 ⟨s1, rfl, hw1, g1, hfr⟩
  obtain ⟨a1, cap1, rfl⟩ := hw1.slice
  have X := Blk.gr (Blk.new' (n := w.heap.size + 1) (by simp)) g1
  have x0 : w1.cell? ⟨w.heap.size + 1, 0, none⟩ = some (.slice none 0 0) := X.cell rfl
  have x1 : w1.cell? ⟨w.heap.size + 1, 1, none⟩ = some (.int .i64 0) := X.cell rfl
  have x2 : w1.cell? ⟨w.heap.size + 1, 2, none⟩ = some (.int .i64 0) := X.cell rfl
  have x3 : w1.cell? ⟨w.heap.size + 1, 3, none⟩ = some (.int .i64 0) := X.cell rfl
  have x4 : w1.cell? ⟨w.heap.size + 1, 4, none⟩ = some (.int .u64 0) := X.cell rfl
  have x5 : w1.cell? ⟨w.heap.size + 1, 5, none⟩ = some (.int .u64 0) := X.cell rfl
  have x6 : w1.cell? ⟨w.heap.size + 1, 6, none⟩ = some (.int .u64 0) := X.cell rfl
  have x7 : w1.cell? ⟨w.heap.size + 1, 7, none⟩ = some (.bool false) := X.cell rfl
  have xf := X.free
  have xl := X.lt
  have xl0 : w.heap.size < w1.heap.size := by omega
  have xl1 : w.heap.size + 1 < w1.heap.size + 1 := by omega
  have HW := hid hw1
  have HX := hid X
  have HG := hid ((((Gr.refl w).alloc _).alloc _).trans g1)
  have HF := hid hfr
  clear hw1 X g1 hfr
  unfold rval Acc.val
  go_wp2_with fail
  go_region
  go_wp2
  refine bodyPost_ret (v := .tuple #[rval (.slice a1 B1.cells.length cap1) B1.count B1.last, .int .u64 B1.last.old]) (res50 _ (w.heap.size + 1) _ _ _ _ ⟨_, _, _, rfl⟩ rfl _ rfl ?_) rfl ?_
  · refine Blk.of_eq (c := (((((((((#[.slice none 0 0, .int .i64 0, .int .i64 0, .int .i64 0, .int .u64 0, .int .u64 0, .int .u64 0, .bool false] : Array Value).setIfInBounds 0 (.slice a1 B1.cells.length cap1)).setIfInBounds 1 (.int .i64 B1.count)).setIfInBounds 2 (.int .i64 B1.last.kind)).setIfInBounds 3 (.int .i64 B1.last.cell)).setIfInBounds 4 (.int .u64 B1.last.via)).setIfInBounds 5 (.int .u64 B1.last.old)).setIfInBounds 6 (.int .u64 B1.last.new)).setIfInBounds 7 (.bool B1.last.done))) ?hx ?ex
    case hx => repeat (first | (with_reducible exact HX.out) | (with_reducible refine Blk.set ?_ _ _) | (with_reducible refine Blk.drew ?_) | (with_reducible refine Blk.alloc ?_ _) | ((with_reducible refine Blk.set_other ?_ ?_ _); rotate_left; focus (simp <;> omega)))
    case ex => rfl
  · have hc : ∀ W, Chg (· = w.heap.size + 1) w1 W → RTold w (.slice a B.cells.length cap) B1 (.int .u64 B1.last.old) (.returned (.tuple #[rval (.slice a1 B1.cells.length cap1) B1.count B1.last, .int .u64 B1.last.old])) W := by
      intro W hc
      refine ⟨_, rfl, ?_, HG.out.step hc (by rintro i rfl; omega), ?_⟩
      · by_cases hnil : B1.cells = []
        · exact words_nil HW.out hnil _
        · refine HW.out.keep hc fun b n c e _ => HF.out.apart (w1 := w1) HV.out (w.heap.size + 1) (by omega) (by simp) ?_ b n c e
          intro e0
          exact hnil (List.eq_nil_of_length_eq_zero (by rw [HL.out, e0]; rfl))
      · rcases HF.out with h | h
        · exact .inl h
        · exact .inr fun b n c e => by have := h b n c e; simp at this; omega
    apply hc
    repeat (first | (with_reducible exact Chg.refl _ _) | (with_reducible refine Chg.drew ?_) | (with_reducible refine Chg.alloc ?_ _) | ((with_reducible refine Chg.setCell ?_ ?_ _); rotate_left; focus (first | exact .inl rfl | (refine .inr ?_; simp <;> omega))))

end Go.Proofs.Ytojlaekckkelhaa
