/-
  The walks of the reference's Of, and of the statements' 'model'.
-/
import Derived.Test.YtojlaekckkelhaaBj
namespace Go.Proofs.Ytojlaekckkelhaa
set_option linter.unusedVariables false
set_option linter.unusedSimpArgs false
open Go.RowKit

/-- What the reference's Of leaves. -/
def ROf (w : World) (l : List Int) (e : Ending) (w' : World) : Prop := ∃ s', e = .returned (rval s' 0 Acc.zero) ∧ Words w' s' l ∧ Gr w w' ∧ ∀ a n c, s' = .slice (some a) n c → w.heap.size ≤ a.block ∧ a.block < w'.heap.size

theorem res38 (t : Array Value) (x : Nat) (W : World) (s : Value) (k : Int) (a : Acc) (hs : ∃ p n c, s = .slice p n c) (hx : t.getD 2 undef = .pointer (some ⟨x, 0, none⟩))
    (bx : Blk W x #[s, .int .i64 k, .int .i64 a.kind, .int .i64 a.cell, .int .u64 a.via, .int .u64 a.old, .int .u64 a.new, .bool a.done] 42) :
    (results Try.f38 t).run Try.prog W = .ok (rval s k a) W := by
  obtain ⟨p, n, c, rfl⟩ := hs
  have x0 : W.cell? ⟨x, 0, none⟩ = some (.slice p n c) := bx.cell rfl
  have x1 : W.cell? ⟨x, 1, none⟩ = some (.int .i64 k) := bx.cell rfl
  have x2 : W.cell? ⟨x, 2, none⟩ = some (.int .i64 a.kind) := bx.cell rfl
  have x3 : W.cell? ⟨x, 3, none⟩ = some (.int .i64 a.cell) := bx.cell rfl
  have x4 : W.cell? ⟨x, 4, none⟩ = some (.int .u64 a.via) := bx.cell rfl
  have x5 : W.cell? ⟨x, 5, none⟩ = some (.int .u64 a.old) := bx.cell rfl
  have x6 : W.cell? ⟨x, 6, none⟩ = some (.int .u64 a.new) := bx.cell rfl
  have x7 : W.cell? ⟨x, 7, none⟩ = some (.bool a.done) := bx.cell rfl
  simp only [Array.getD_eq_getD_getElem?] at hx 
  simp [results, Try.results38, go_sem, rval, Acc.val, hx, x0, x1, x2, x3, x4, x5, x6, x7]

set_option maxHeartbeats 1000000 in
theorem rof_any (v : Value) (l : List Int) (w : World) (hv : Words w v l) (hl : l.length ≤ 100) : Calls Try.prog 38 #[v] w (ROf w l) := by
  obtain ⟨a, cap, rfl⟩ := hv.slice
  have HV := hid hv
  clear hv
  go_enter Try.func38, Try.ntmps38
  go_wp2_with (with_reducible refine wpList_append_words rfl (.tmp 3) (.tmp 4) 37 rfl Try.underlying37 info22 (w.heap.size + 1) l _ rfl rfl ?c1 ?c2 ?c3 ?_)
  case c1 => exact Blk.new' (by simp)
  case c2 => exact HV.out.gr (((Gr.refl w).alloc _).alloc _)
  case c3 => omega
  intro q cap1 cur w1 hq ho c1
  have X : Blk w1 w.heap.size #[.slice none 0 0, .int .i64 0, .int .i64 0, .int .i64 0, .int .u64 0, .int .u64 0, .int .u64 0, .bool false] 42 := Blk.chg (Blk.alloc (Blk.new _ _ _) _) c1 (by omega)
  have x0 : w1.cell? ⟨w.heap.size, 0, none⟩ = some (.slice none 0 0) := X.cell rfl
  have x1 : w1.cell? ⟨w.heap.size, 1, none⟩ = some (.int .i64 0) := X.cell rfl
  have x2 : w1.cell? ⟨w.heap.size, 2, none⟩ = some (.int .i64 0) := X.cell rfl
  have x3 : w1.cell? ⟨w.heap.size, 3, none⟩ = some (.int .i64 0) := X.cell rfl
  have x4 : w1.cell? ⟨w.heap.size, 4, none⟩ = some (.int .u64 0) := X.cell rfl
  have x5 : w1.cell? ⟨w.heap.size, 5, none⟩ = some (.int .u64 0) := X.cell rfl
  have x6 : w1.cell? ⟨w.heap.size, 6, none⟩ = some (.int .u64 0) := X.cell rfl
  have x7 : w1.cell? ⟨w.heap.size, 7, none⟩ = some (.bool false) := X.cell rfl
  have xf := X.free
  have xl := X.lt
  have ql := ho.out.blk.lt
  have HX := hid X
  have HG := hid ((((Gr.refl w).alloc _).alloc _).step c1 (by rintro i rfl; omega))
  clear X c1
  go_wp2_with fail
  refine bodyPost_ret (v := rval (.slice (some ⟨q, 0, none⟩) l.length cap1) 0 Acc.zero) (res38 _ w.heap.size _ _ _ _ ⟨_, _, _, rfl⟩ rfl ?_) rfl ?_
  · refine Blk.of_eq (c := (((((((((#[.slice none 0 0, .int .i64 0, .int .i64 0, .int .i64 0, .int .u64 0, .int .u64 0, .int .u64 0, .bool false] : Array Value).setIfInBounds 0 (.slice (some ⟨q, 0, none⟩) l.length cap1)).setIfInBounds 1 (.int .i64 0)).setIfInBounds 2 (.int .i64 0)).setIfInBounds 3 (.int .i64 0)).setIfInBounds 4 (.int .u64 0)).setIfInBounds 5 (.int .u64 0)).setIfInBounds 6 (.int .u64 0)).setIfInBounds 7 (.bool false))) ?hx ?ex
    case hx => repeat (first | (with_reducible exact HX.out) | (with_reducible refine Blk.set ?_ _ _) | (with_reducible refine Blk.drew ?_) | (with_reducible refine Blk.alloc ?_ _) | ((with_reducible refine Blk.set_other ?_ ?_ _); rotate_left; focus (simp <;> omega)))
    case ex => rfl
  · have hc : ∀ W, Chg (· = w.heap.size) w1 W → ROf w l (.returned (rval (.slice (some ⟨q, 0, none⟩) l.length cap1) 0 Acc.zero)) W := by
      intro W hc
      refine ⟨_, rfl, ho.out.words.keep hc (by intro b n c e _; cases e; show ¬ q = w.heap.size; omega), HG.out.step hc (by rintro i rfl; omega), ?_⟩
      intro b n c e
      cases e
      have := hc.size
      exact ⟨by show w.heap.size ≤ q; omega, by show q < W.heap.size; omega⟩
    apply hc
    repeat (first | (with_reducible exact Chg.refl _ _) | (with_reducible refine Chg.drew ?_) | (with_reducible refine Chg.alloc ?_ _) | ((with_reducible refine Chg.setCell ?_ ?_ _); rotate_left; focus (first | exact .inl rfl | (refine .inr ?_; simp <;> omega))))

/-- What the statements' model leaves. -/
def RModel (w : World) (s : Value) (B : Bk) (r : Int) (is : Bool) (e : Ending) (w' : World) : Prop := ∃ s', e = .returned (.tuple #[rval s' B.count B.last, .int .u64 r, .bool is]) ∧ Words w' s' B.cells ∧ Gr w w' ∧ Fresh w s s'

theorem res40 (t : Array Value) (x : Nat) (W : World) (s : Value) (k : Int) (a : Acc) (hs : ∃ p n c, s = .slice p n c) (hx : t.getD 4 undef = .pointer (some ⟨x, 0, none⟩)) (v0 : Value) (hv0 : t.getD 5 undef = v0) (v1 : Value) (hv1 : t.getD 6 undef = v1)
    (bx : Blk W x #[s, .int .i64 k, .int .i64 a.kind, .int .i64 a.cell, .int .u64 a.via, .int .u64 a.old, .int .u64 a.new, .bool a.done] 42) :
    (results Try.f40 t).run Try.prog W = .ok (.tuple #[rval s k a, v0, v1]) W := by
  obtain ⟨p, n, c, rfl⟩ := hs
  have x0 : W.cell? ⟨x, 0, none⟩ = some (.slice p n c) := bx.cell rfl
  have x1 : W.cell? ⟨x, 1, none⟩ = some (.int .i64 k) := bx.cell rfl
  have x2 : W.cell? ⟨x, 2, none⟩ = some (.int .i64 a.kind) := bx.cell rfl
  have x3 : W.cell? ⟨x, 3, none⟩ = some (.int .i64 a.cell) := bx.cell rfl
  have x4 : W.cell? ⟨x, 4, none⟩ = some (.int .u64 a.via) := bx.cell rfl
  have x5 : W.cell? ⟨x, 5, none⟩ = some (.int .u64 a.old) := bx.cell rfl
  have x6 : W.cell? ⟨x, 6, none⟩ = some (.int .u64 a.new) := bx.cell rfl
  have x7 : W.cell? ⟨x, 7, none⟩ = some (.bool a.done) := bx.cell rfl
  simp only [Array.getD_eq_getD_getElem?] at hx hv0 hv1
  simp [results, Try.results40, go_sem, rval, Acc.val, hx, hv0, hv1, x0, x1, x2, x3, x4, x5, x6, x7]

set_option maxHeartbeats 1000000 in
theorem model_load (s : Value) (B : Bk) (c via old v : Int) (w : World) (hv : Words w s B.cells) (hl : B.cells.length ≤ 100) :
    Calls Try.prog 40 #[rval s B.count B.last, opv 1 c via old v] w (RModel w s (B.load c via) (B.load c via).last.old false) := by
  obtain ⟨a, cap, rfl⟩ := hv.slice
  have HV := hid hv
  have hdo := fun w hv => rload_any (.slice a B.cells.length cap) B c via w hv hl
  have hlen : (B.load c via).cells.length = B.cells.length := by unfold Bk.load; split <;> simp [Bk.done, Bk.none]
  generalize B.load c via = B1 at *
  have HL := hid hlen
  unfold rval at hdo
  have HD := hid hdo
  unfold rval opv
  clear hv hdo hlen
  go_enter Try.func40, Try.ntmps40
  go_wp2_with fail
  refine (HD.out _ (HV.out.gr ((((Gr.refl w).alloc _).alloc _).alloc _))).mono ?_
  rintro e w1 ⟨s1, rfl, hw1, g1, hfr⟩
  obtain ⟨a1, cap1, rfl⟩ := hw1.slice
  have X := Blk.gr (Blk.new' (n := w.heap.size + 1 + 1) (by simp)) g1
  have x0 : w1.cell? ⟨w.heap.size + 1 + 1, 0, none⟩ = some (.slice none 0 0) := X.cell rfl
  have x1 : w1.cell? ⟨w.heap.size + 1 + 1, 1, none⟩ = some (.int .i64 0) := X.cell rfl
  have x2 : w1.cell? ⟨w.heap.size + 1 + 1, 2, none⟩ = some (.int .i64 0) := X.cell rfl
  have x3 : w1.cell? ⟨w.heap.size + 1 + 1, 3, none⟩ = some (.int .i64 0) := X.cell rfl
  have x4 : w1.cell? ⟨w.heap.size + 1 + 1, 4, none⟩ = some (.int .u64 0) := X.cell rfl
  have x5 : w1.cell? ⟨w.heap.size + 1 + 1, 5, none⟩ = some (.int .u64 0) := X.cell rfl
  have x6 : w1.cell? ⟨w.heap.size + 1 + 1, 6, none⟩ = some (.int .u64 0) := X.cell rfl
  have x7 : w1.cell? ⟨w.heap.size + 1 + 1, 7, none⟩ = some (.bool false) := X.cell rfl
  have xf := X.free
  have xl := X.lt
  have xl0 : w.heap.size < w1.heap.size := by omega
  have xl1 : w.heap.size + 1 < w1.heap.size := by omega
  have xl2 : w.heap.size + 1 + 1 < w1.heap.size + 1 := by omega
  have HW := hid hw1
  have HX := hid X
  have HG := hid (((((Gr.refl w).alloc _).alloc _).alloc _).trans g1)
  have HF := hid hfr
  clear hw1 X g1 hfr
  unfold rval
  go_wp2_with fail
  refine bodyPost_ret (v := .tuple #[rval (.slice a1 B1.cells.length cap1) B1.count B1.last, .int .u64 B1.last.old, .bool false]) (res40 _ (w.heap.size + 1 + 1) _ _ _ _ ⟨_, _, _, rfl⟩ rfl _ rfl _ rfl ?_) rfl ?_
  · refine Blk.of_eq (c := (((((((((#[.slice none 0 0, .int .i64 0, .int .i64 0, .int .i64 0, .int .u64 0, .int .u64 0, .int .u64 0, .bool false] : Array Value).setIfInBounds 0 (.slice a1 B1.cells.length cap1)).setIfInBounds 1 (.int .i64 B1.count)).setIfInBounds 2 (.int .i64 B1.last.kind)).setIfInBounds 3 (.int .i64 B1.last.cell)).setIfInBounds 4 (.int .u64 B1.last.via)).setIfInBounds 5 (.int .u64 B1.last.old)).setIfInBounds 6 (.int .u64 B1.last.new)).setIfInBounds 7 (.bool B1.last.done))) ?hx ?ex
    case hx => repeat (first | (with_reducible exact HX.out) | (with_reducible refine Blk.set ?_ _ _) | (with_reducible refine Blk.drew ?_) | (with_reducible refine Blk.alloc ?_ _) | ((with_reducible refine Blk.set_other ?_ ?_ _); rotate_left; focus (simp <;> omega)))
    case ex => rfl
  · have hc : ∀ W, Chg (· = w.heap.size + 1 + 1) w1 W → RModel w (.slice a B.cells.length cap) B1 B1.last.old false (.returned (.tuple #[rval (.slice a1 B1.cells.length cap1) B1.count B1.last, .int .u64 B1.last.old, .bool false])) W := by
      intro W hc
      refine ⟨_, rfl, ?_, HG.out.step hc (by rintro i rfl; omega), ?_⟩
      · by_cases hnil : B1.cells = []
        · exact words_nil HW.out hnil _
        · refine HW.out.keep hc fun b n c e _ => HF.out.apart (w1 := w1) HV.out (w.heap.size + 1 + 1) (by omega) (by simp) ?_ b n c e
          intro e0
          exact hnil (List.eq_nil_of_length_eq_zero (by rw [HL.out, e0]; rfl))
      · rcases HF.out with h | h
        · exact .inl h
        · exact .inr fun b n c e => by have := h b n c e; simp at this; omega
    apply hc
    repeat (first | (with_reducible exact Chg.refl _ _) | (with_reducible refine Chg.drew ?_) | (with_reducible refine Chg.alloc ?_ _) | ((with_reducible refine Chg.setCell ?_ ?_ _); rotate_left; focus (first | exact .inl rfl | (refine .inr ?_; simp <;> omega))))

set_option maxHeartbeats 1000000 in
theorem model_store (s : Value) (B : Bk) (c via old v : Int) (w : World) (hv : Words w s B.cells) (hl : B.cells.length ≤ 100) :
    Calls Try.prog 40 #[rval s B.count B.last, opv 2 c via old v] w (RModel w s (B.store c via v) 0 false) := by
  obtain ⟨a, cap, rfl⟩ := hv.slice
  have HV := hid hv
  have hdo := fun w hv => rstore_any (.slice a B.cells.length cap) B c via v w hv hl
  have hlen : (B.store c via v).cells.length = B.cells.length := by unfold Bk.store; split <;> simp [Bk.done, Bk.none]
  generalize B.store c via v = B1 at *
  have HL := hid hlen
  unfold rval at hdo
  have HD := hid hdo
  unfold rval opv
  clear hv hdo hlen
  go_enter Try.func40, Try.ntmps40
  go_wp2_with fail
  refine (HD.out _ (HV.out.gr ((((Gr.refl w).alloc _).alloc _).alloc _))).mono ?_
  rintro e w1 ⟨s1, rfl, hw1, g1, hfr⟩
  obtain ⟨a1, cap1, rfl⟩ := hw1.slice
  have X := Blk.gr (Blk.new' (n := w.heap.size + 1 + 1) (by simp)) g1
  have x0 : w1.cell? ⟨w.heap.size + 1 + 1, 0, none⟩ = some (.slice none 0 0) := X.cell rfl
  have x1 : w1.cell? ⟨w.heap.size + 1 + 1, 1, none⟩ = some (.int .i64 0) := X.cell rfl
  have x2 : w1.cell? ⟨w.heap.size + 1 + 1, 2, none⟩ = some (.int .i64 0) := X.cell rfl
  have x3 : w1.cell? ⟨w.heap.size + 1 + 1, 3, none⟩ = some (.int .i64 0) := X.cell rfl
  have x4 : w1.cell? ⟨w.heap.size + 1 + 1, 4, none⟩ = some (.int .u64 0) := X.cell rfl
  have x5 : w1.cell? ⟨w.heap.size + 1 + 1, 5, none⟩ = some (.int .u64 0) := X.cell rfl
  have x6 : w1.cell? ⟨w.heap.size + 1 + 1, 6, none⟩ = some (.int .u64 0) := X.cell rfl
  have x7 : w1.cell? ⟨w.heap.size + 1 + 1, 7, none⟩ = some (.bool false) := X.cell rfl
  have xf := X.free
  have xl := X.lt
  have xl0 : w.heap.size < w1.heap.size := by omega
  have xl1 : w.heap.size + 1 < w1.heap.size := by omega
  have xl2 : w.heap.size + 1 + 1 < w1.heap.size + 1 := by omega
  have HW := hid hw1
  have HX := hid X
  have HG := hid (((((Gr.refl w).alloc _).alloc _).alloc _).trans g1)
  have HF := hid hfr
  clear hw1 X g1 hfr
  unfold rval
  go_wp2_with fail
  refine bodyPost_ret (v := .tuple #[rval (.slice a1 B1.cells.length cap1) B1.count B1.last, .int .u64 0, .bool false]) (res40 _ (w.heap.size + 1 + 1) _ _ _ _ ⟨_, _, _, rfl⟩ rfl _ rfl _ rfl ?_) rfl ?_
  · refine Blk.of_eq (c := (((((((((#[.slice none 0 0, .int .i64 0, .int .i64 0, .int .i64 0, .int .u64 0, .int .u64 0, .int .u64 0, .bool false] : Array Value).setIfInBounds 0 (.slice a1 B1.cells.length cap1)).setIfInBounds 1 (.int .i64 B1.count)).setIfInBounds 2 (.int .i64 B1.last.kind)).setIfInBounds 3 (.int .i64 B1.last.cell)).setIfInBounds 4 (.int .u64 B1.last.via)).setIfInBounds 5 (.int .u64 B1.last.old)).setIfInBounds 6 (.int .u64 B1.last.new)).setIfInBounds 7 (.bool B1.last.done))) ?hx ?ex
    case hx => repeat (first | (with_reducible exact HX.out) | (with_reducible refine Blk.set ?_ _ _) | (with_reducible refine Blk.drew ?_) | (with_reducible refine Blk.alloc ?_ _) | ((with_reducible refine Blk.set_other ?_ ?_ _); rotate_left; focus (simp <;> omega)))
    case ex => rfl
  · have hc : ∀ W, Chg (· = w.heap.size + 1 + 1) w1 W → RModel w (.slice a B.cells.length cap) B1 0 false (.returned (.tuple #[rval (.slice a1 B1.cells.length cap1) B1.count B1.last, .int .u64 0, .bool false])) W := by
      intro W hc
      refine ⟨_, rfl, ?_, HG.out.step hc (by rintro i rfl; omega), ?_⟩
      · by_cases hnil : B1.cells = []
        · exact words_nil HW.out hnil _
        · refine HW.out.keep hc fun b n c e _ => HF.out.apart (w1 := w1) HV.out (w.heap.size + 1 + 1) (by omega) (by simp) ?_ b n c e
          intro e0
          exact hnil (List.eq_nil_of_length_eq_zero (by rw [HL.out, e0]; rfl))
      · rcases HF.out with h | h
        · exact .inl h
        · exact .inr fun b n c e => by have := h b n c e; simp at this; omega
    apply hc
    repeat (first | (with_reducible exact Chg.refl _ _) | (with_reducible refine Chg.drew ?_) | (with_reducible refine Chg.alloc ?_ _) | ((with_reducible refine Chg.setCell ?_ ?_ _); rotate_left; focus (first | exact .inl rfl | (refine .inr ?_; simp <;> omega))))

set_option maxHeartbeats 1000000 in
theorem model_swap (s : Value) (B : Bk) (c via old v : Int) (w : World) (hv : Words w s B.cells) (hl : B.cells.length ≤ 100) :
    Calls Try.prog 40 #[rval s B.count B.last, opv 3 c via old v] w (RModel w s (B.swap c via old v) 0 (B.swap c via old v).last.done) := by
  obtain ⟨a, cap, rfl⟩ := hv.slice
  have HV := hid hv
  have hdo := fun w hv => rswap_any (.slice a B.cells.length cap) B c via old v w hv hl
  have hlen : (B.swap c via old v).cells.length = B.cells.length := by unfold Bk.swap; split <;> simp [Bk.done, Bk.none]
  generalize B.swap c via old v = B1 at *
  have HL := hid hlen
  unfold rval at hdo
  have HD := hid hdo
  unfold rval opv
  clear hv hdo hlen
  go_enter Try.func40, Try.ntmps40
  go_wp2_with fail
  refine (HD.out _ (HV.out.gr ((((Gr.refl w).alloc _).alloc _).alloc _))).mono ?_
  rintro e w1 ⟨s1, rfl, hw1, g1, hfr⟩
  obtain ⟨a1, cap1, rfl⟩ := hw1.slice
  have X := Blk.gr (Blk.new' (n := w.heap.size + 1 + 1) (by simp)) g1
  have x0 : w1.cell? ⟨w.heap.size + 1 + 1, 0, none⟩ = some (.slice none 0 0) := X.cell rfl
  have x1 : w1.cell? ⟨w.heap.size + 1 + 1, 1, none⟩ = some (.int .i64 0) := X.cell rfl
  have x2 : w1.cell? ⟨w.heap.size + 1 + 1, 2, none⟩ = some (.int .i64 0) := X.cell rfl
  have x3 : w1.cell? ⟨w.heap.size + 1 + 1, 3, none⟩ = some (.int .i64 0) := X.cell rfl
  have x4 : w1.cell? ⟨w.heap.size + 1 + 1, 4, none⟩ = some (.int .u64 0) := X.cell rfl
  have x5 : w1.cell? ⟨w.heap.size + 1 + 1, 5, none⟩ = some (.int .u64 0) := X.cell rfl
  have x6 : w1.cell? ⟨w.heap.size + 1 + 1, 6, none⟩ = some (.int .u64 0) := X.cell rfl
  have x7 : w1.cell? ⟨w.heap.size + 1 + 1, 7, none⟩ = some (.bool false) := X.cell rfl
  have xf := X.free
  have xl := X.lt
  have xl0 : w.heap.size < w1.heap.size := by omega
  have xl1 : w.heap.size + 1 < w1.heap.size := by omega
  have xl2 : w.heap.size + 1 + 1 < w1.heap.size + 1 := by omega
  have HW := hid hw1
  have HX := hid X
  have HG := hid (((((Gr.refl w).alloc _).alloc _).alloc _).trans g1)
  have HF := hid hfr
  clear hw1 X g1 hfr
  unfold rval
  go_wp2_with fail
  refine bodyPost_ret (v := .tuple #[rval (.slice a1 B1.cells.length cap1) B1.count B1.last, .int .u64 0, .bool B1.last.done]) (res40 _ (w.heap.size + 1 + 1) _ _ _ _ ⟨_, _, _, rfl⟩ rfl _ rfl _ rfl ?_) rfl ?_
  · refine Blk.of_eq (c := (((((((((#[.slice none 0 0, .int .i64 0, .int .i64 0, .int .i64 0, .int .u64 0, .int .u64 0, .int .u64 0, .bool false] : Array Value).setIfInBounds 0 (.slice a1 B1.cells.length cap1)).setIfInBounds 1 (.int .i64 B1.count)).setIfInBounds 2 (.int .i64 B1.last.kind)).setIfInBounds 3 (.int .i64 B1.last.cell)).setIfInBounds 4 (.int .u64 B1.last.via)).setIfInBounds 5 (.int .u64 B1.last.old)).setIfInBounds 6 (.int .u64 B1.last.new)).setIfInBounds 7 (.bool B1.last.done))) ?hx ?ex
    case hx => repeat (first | (with_reducible exact HX.out) | (with_reducible refine Blk.set ?_ _ _) | (with_reducible refine Blk.drew ?_) | (with_reducible refine Blk.alloc ?_ _) | ((with_reducible refine Blk.set_other ?_ ?_ _); rotate_left; focus (simp <;> omega)))
    case ex => rfl
  · have hc : ∀ W, Chg (· = w.heap.size + 1 + 1) w1 W → RModel w (.slice a B.cells.length cap) B1 0 B1.last.done (.returned (.tuple #[rval (.slice a1 B1.cells.length cap1) B1.count B1.last, .int .u64 0, .bool B1.last.done])) W := by
      intro W hc
      refine ⟨_, rfl, ?_, HG.out.step hc (by rintro i rfl; omega), ?_⟩
      · by_cases hnil : B1.cells = []
        · exact words_nil HW.out hnil _
        · refine HW.out.keep hc fun b n c e _ => HF.out.apart (w1 := w1) HV.out (w.heap.size + 1 + 1) (by omega) (by simp) ?_ b n c e
          intro e0
          exact hnil (List.eq_nil_of_length_eq_zero (by rw [HL.out, e0]; rfl))
      · rcases HF.out with h | h
        · exact .inl h
        · exact .inr fun b n c e => by have := h b n c e; simp at this; omega
    apply hc
    repeat (first | (with_reducible exact Chg.refl _ _) | (with_reducible refine Chg.drew ?_) | (with_reducible refine Chg.alloc ?_ _) | ((with_reducible refine Chg.setCell ?_ ?_ _); rotate_left; focus (first | exact .inl rfl | (refine .inr ?_; simp <;> omega))))

set_option maxHeartbeats 1000000 in
theorem model_add (s : Value) (B : Bk) (c via old v : Int) (w : World) (hv : Words w s B.cells) (hl : B.cells.length ≤ 100) :
    Calls Try.prog 40 #[rval s B.count B.last, opv 4 c via old v] w (RModel w s (B.add c via v) (B.add c via v).last.old false) := by
  obtain ⟨a, cap, rfl⟩ := hv.slice
  have HV := hid hv
  have hdo := fun w hv => radd_any (.slice a B.cells.length cap) B c via v w hv hl
  have hlen : (B.add c via v).cells.length = B.cells.length := by unfold Bk.add; split <;> simp [Bk.done, Bk.none]
  generalize B.add c via v = B1 at *
  have HL := hid hlen
  unfold rval at hdo
  have HD := hid hdo
  unfold rval opv
  clear hv hdo hlen
  go_enter Try.func40, Try.ntmps40
  go_wp2_with fail
  refine (HD.out _ (HV.out.gr ((((Gr.refl w).alloc _).alloc _).alloc _))).mono ?_
  rintro e w1 ⟨s1, rfl, hw1, g1, hfr⟩
  obtain ⟨a1, cap1, rfl⟩ := hw1.slice
  have X := Blk.gr (Blk.new' (n := w.heap.size + 1 + 1) (by simp)) g1
  have x0 : w1.cell? ⟨w.heap.size + 1 + 1, 0, none⟩ = some (.slice none 0 0) := X.cell rfl
  have x1 : w1.cell? ⟨w.heap.size + 1 + 1, 1, none⟩ = some (.int .i64 0) := X.cell rfl
  have x2 : w1.cell? ⟨w.heap.size + 1 + 1, 2, none⟩ = some (.int .i64 0) := X.cell rfl
  have x3 : w1.cell? ⟨w.heap.size + 1 + 1, 3, none⟩ = some (.int .i64 0) := X.cell rfl
  have x4 : w1.cell? ⟨w.heap.size + 1 + 1, 4, none⟩ = some (.int .u64 0) := X.cell rfl
  have x5 : w1.cell? ⟨w.heap.size + 1 + 1, 5, none⟩ = some (.int .u64 0) := X.cell rfl
  have x6 : w1.cell? ⟨w.heap.size + 1 + 1, 6, none⟩ = some (.int .u64 0) := X.cell rfl
  have x7 : w1.cell? ⟨w.heap.size + 1 + 1, 7, none⟩ = some (.bool false) := X.cell rfl
  have xf := X.free
  have xl := X.lt
  have xl0 : w.heap.size < w1.heap.size := by omega
  have xl1 : w.heap.size + 1 < w1.heap.size := by omega
  have xl2 : w.heap.size + 1 + 1 < w1.heap.size + 1 := by omega
  have HW := hid hw1
  have HX := hid X
  have HG := hid (((((Gr.refl w).alloc _).alloc _).alloc _).trans g1)
  have HF := hid hfr
  clear hw1 X g1 hfr
  unfold rval
  go_wp2_with fail
  refine bodyPost_ret (v := .tuple #[rval (.slice a1 B1.cells.length cap1) B1.count B1.last, .int .u64 B1.last.old, .bool false]) (res40 _ (w.heap.size + 1 + 1) _ _ _ _ ⟨_, _, _, rfl⟩ rfl _ rfl _ rfl ?_) rfl ?_
  · refine Blk.of_eq (c := (((((((((#[.slice none 0 0, .int .i64 0, .int .i64 0, .int .i64 0, .int .u64 0, .int .u64 0, .int .u64 0, .bool false] : Array Value).setIfInBounds 0 (.slice a1 B1.cells.length cap1)).setIfInBounds 1 (.int .i64 B1.count)).setIfInBounds 2 (.int .i64 B1.last.kind)).setIfInBounds 3 (.int .i64 B1.last.cell)).setIfInBounds 4 (.int .u64 B1.last.via)).setIfInBounds 5 (.int .u64 B1.last.old)).setIfInBounds 6 (.int .u64 B1.last.new)).setIfInBounds 7 (.bool B1.last.done))) ?hx ?ex
    case hx => repeat (first | (with_reducible exact HX.out) | (with_reducible refine Blk.set ?_ _ _) | (with_reducible refine Blk.drew ?_) | (with_reducible refine Blk.alloc ?_ _) | ((with_reducible refine Blk.set_other ?_ ?_ _); rotate_left; focus (simp <;> omega)))
    case ex => rfl
  · have hc : ∀ W, Chg (· = w.heap.size + 1 + 1) w1 W → RModel w (.slice a B.cells.length cap) B1 B1.last.old false (.returned (.tuple #[rval (.slice a1 B1.cells.length cap1) B1.count B1.last, .int .u64 B1.last.old, .bool false])) W := by
      intro W hc
      refine ⟨_, rfl, ?_, HG.out.step hc (by rintro i rfl; omega), ?_⟩
      · by_cases hnil : B1.cells = []
        · exact words_nil HW.out hnil _
        · refine HW.out.keep hc fun b n c e _ => HF.out.apart (w1 := w1) HV.out (w.heap.size + 1 + 1) (by omega) (by simp) ?_ b n c e
          intro e0
          exact hnil (List.eq_nil_of_length_eq_zero (by rw [HL.out, e0]; rfl))
      · rcases HF.out with h | h
        · exact .inl h
        · exact .inr fun b n c e => by have := h b n c e; simp at this; omega
    apply hc
    repeat (first | (with_reducible exact Chg.refl _ _) | (with_reducible refine Chg.drew ?_) | (with_reducible refine Chg.alloc ?_ _) | ((with_reducible refine Chg.setCell ?_ ?_ _); rotate_left; focus (first | exact .inl rfl | (refine .inr ?_; simp <;> omega))))

set_option maxHeartbeats 1000000 in
theorem model_none (s : Value) (B : Bk) (k c via old v : Int) (w : World) (hv : Words w s B.cells) (k1 : ¬ k = 1) (k2 : ¬ k = 2) (k3 : ¬ k = 3) (k4 : ¬ k = 4) :
    Calls Try.prog 40 #[rval s B.count B.last, opv k c via old v] w (RModel w s B 0 false) := by
  obtain ⟨a, cap, rfl⟩ := hv.slice
  have HV := hid hv
  have f1 : (k == 1) = false := by simpa using k1
  have f2 : (k == 2) = false := by simpa using k2
  have f3 : (k == 3) = false := by simpa using k3
  have f4 : (k == 4) = false := by simpa using k4
  unfold rval opv
  clear hv k1 k2 k3 k4
  go_enter Try.func40, Try.ntmps40
  go_wp2_with fail
  refine bodyPost_ret (v := .tuple #[rval (.slice a B.cells.length cap) B.count B.last, .int .u64 0, .bool false]) (res40 _ (w.heap.size + 1 + 1) _ _ _ _ ⟨_, _, _, rfl⟩ rfl _ rfl _ rfl ?_) rfl ?_
  · exact Blk.new' (by simp)
  · exact ⟨_, rfl, HV.out.gr ((((Gr.refl w).alloc _).alloc _).alloc _), (((Gr.refl w).alloc _).alloc _).alloc _, .inl rfl⟩

theorem model_any (s : Value) (B : Bk) (k c via old v : Int) (w : World) (hv : Words w s B.cells) (hl : B.cells.length ≤ 100) :
    Calls Try.prog 40 #[rval s B.count B.last, opv k c via old v] w (RModel w s (B.does k c via old v) (B.doesV k c via old v) (B.doesIs k c via old v)) := by
  by_cases k1 : k = 1
  · have e1 : B.does k c via old v = B.load c via := if_pos k1
    have e2 : B.doesV k c via old v = (B.load c via).last.old := if_pos k1
    have e3 : B.doesIs k c via old v = false := if_neg (by omega)
    rw [e1, e2, e3]; subst k1
    exact model_load s B c via old v w hv hl
  · by_cases k2 : k = 2
    · subst k2; exact model_store s B c via old v w hv hl
    · by_cases k3 : k = 3
      · subst k3; exact model_swap s B c via old v w hv hl
      · by_cases k4 : k = 4
        · subst k4; exact model_add s B c via old v w hv hl
        · have e1 : B.does k c via old v = B := by unfold Bk.does; rw [if_neg k1, if_neg k2, if_neg k3, if_neg k4]
          have e2 : B.doesV k c via old v = 0 := by unfold Bk.doesV; rw [if_neg k1, if_neg k4]
          have e3 : B.doesIs k c via old v = false := by unfold Bk.doesIs; rw [if_neg k3]
          rw [e1, e2, e3]
          exact model_none s B k c via old v w hv k1 k2 k3 k4
end Go.Proofs.Ytojlaekckkelhaa
