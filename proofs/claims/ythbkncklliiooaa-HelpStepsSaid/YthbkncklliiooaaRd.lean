/-
  The reference's accesses to a bank.
-/
import Derived.Test.YthbkncklliiooaaHo
import Derived.Laws.AppendOwnNone
import Derived.OwnWalk
namespace Go.Proofs.YthbkncklliiooaaH
set_option linter.unusedVariables false
set_option linter.unusedSimpArgs false
open Go.RowKit

theorem cells3 {w : World} {b : Nat} {t : TypeId} {a0 a1 a2 : Value} (h : Blk w b #[a0, a1, a2] t) : w.cell? ⟨b, 0, none⟩ = some a0 ∧ w.cell? ⟨b, 1, none⟩ = some a1 ∧ w.cell? ⟨b, 2, none⟩ = some a2 :=
  ⟨h.cell rfl, h.cell rfl, h.cell rfl⟩
theorem st3 {w : World} {b : Nat} {t : TypeId} {a0 a1 a2 : Value} (h : Blk w b #[a0, a1, a2] t) : (∀ s : St (· = w), s.val.cell? ⟨b, 0, none⟩ = some a0) ∧ (∀ s : St (· = w), s.val.cell? ⟨b, 1, none⟩ = some a1) ∧ (∀ s : St (· = w), s.val.cell? ⟨b, 2, none⟩ = some a2) := by
  obtain ⟨x0, x1, x2⟩ := cells3 h
  exact ⟨fun s => by rw [s.ok]; exact x0, fun s => by rw [s.ok]; exact x1, fun s => by rw [s.ok]; exact x2⟩
theorem cells5 {w : World} {b : Nat} {t : TypeId} {a0 a1 a2 a3 a4 : Value} (h : Blk w b #[a0, a1, a2, a3, a4] t) : w.cell? ⟨b, 0, none⟩ = some a0 ∧ w.cell? ⟨b, 1, none⟩ = some a1 ∧ w.cell? ⟨b, 2, none⟩ = some a2 ∧ w.cell? ⟨b, 3, none⟩ = some a3 ∧ w.cell? ⟨b, 4, none⟩ = some a4 :=
  ⟨h.cell rfl, h.cell rfl, h.cell rfl, h.cell rfl, h.cell rfl⟩
theorem st5 {w : World} {b : Nat} {t : TypeId} {a0 a1 a2 a3 a4 : Value} (h : Blk w b #[a0, a1, a2, a3, a4] t) : (∀ s : St (· = w), s.val.cell? ⟨b, 0, none⟩ = some a0) ∧ (∀ s : St (· = w), s.val.cell? ⟨b, 1, none⟩ = some a1) ∧ (∀ s : St (· = w), s.val.cell? ⟨b, 2, none⟩ = some a2) ∧ (∀ s : St (· = w), s.val.cell? ⟨b, 3, none⟩ = some a3) ∧ (∀ s : St (· = w), s.val.cell? ⟨b, 4, none⟩ = some a4) := by
  obtain ⟨x0, x1, x2, x3, x4⟩ := cells5 h
  exact ⟨fun s => by rw [s.ok]; exact x0, fun s => by rw [s.ok]; exact x1, fun s => by rw [s.ok]; exact x2, fun s => by rw [s.ok]; exact x3, fun s => by rw [s.ok]; exact x4⟩
theorem cells7 {w : World} {b : Nat} {t : TypeId} {a0 a1 a2 a3 a4 a5 a6 : Value} (h : Blk w b #[a0, a1, a2, a3, a4, a5, a6] t) : w.cell? ⟨b, 0, none⟩ = some a0 ∧ w.cell? ⟨b, 1, none⟩ = some a1 ∧ w.cell? ⟨b, 2, none⟩ = some a2 ∧ w.cell? ⟨b, 3, none⟩ = some a3 ∧ w.cell? ⟨b, 4, none⟩ = some a4 ∧ w.cell? ⟨b, 5, none⟩ = some a5 ∧ w.cell? ⟨b, 6, none⟩ = some a6 :=
  ⟨h.cell rfl, h.cell rfl, h.cell rfl, h.cell rfl, h.cell rfl, h.cell rfl, h.cell rfl⟩
theorem st7 {w : World} {b : Nat} {t : TypeId} {a0 a1 a2 a3 a4 a5 a6 : Value} (h : Blk w b #[a0, a1, a2, a3, a4, a5, a6] t) : (∀ s : St (· = w), s.val.cell? ⟨b, 0, none⟩ = some a0) ∧ (∀ s : St (· = w), s.val.cell? ⟨b, 1, none⟩ = some a1) ∧ (∀ s : St (· = w), s.val.cell? ⟨b, 2, none⟩ = some a2) ∧ (∀ s : St (· = w), s.val.cell? ⟨b, 3, none⟩ = some a3) ∧ (∀ s : St (· = w), s.val.cell? ⟨b, 4, none⟩ = some a4) ∧ (∀ s : St (· = w), s.val.cell? ⟨b, 5, none⟩ = some a5) ∧ (∀ s : St (· = w), s.val.cell? ⟨b, 6, none⟩ = some a6) := by
  obtain ⟨x0, x1, x2, x3, x4, x5, x6⟩ := cells7 h
  exact ⟨fun s => by rw [s.ok]; exact x0, fun s => by rw [s.ok]; exact x1, fun s => by rw [s.ok]; exact x2, fun s => by rw [s.ok]; exact x3, fun s => by rw [s.ok]; exact x4, fun s => by rw [s.ok]; exact x5, fun s => by rw [s.ok]; exact x6⟩
theorem cells8 {w : World} {b : Nat} {t : TypeId} {a0 a1 a2 a3 a4 a5 a6 a7 : Value} (h : Blk w b #[a0, a1, a2, a3, a4, a5, a6, a7] t) : w.cell? ⟨b, 0, none⟩ = some a0 ∧ w.cell? ⟨b, 1, none⟩ = some a1 ∧ w.cell? ⟨b, 2, none⟩ = some a2 ∧ w.cell? ⟨b, 3, none⟩ = some a3 ∧ w.cell? ⟨b, 4, none⟩ = some a4 ∧ w.cell? ⟨b, 5, none⟩ = some a5 ∧ w.cell? ⟨b, 6, none⟩ = some a6 ∧ w.cell? ⟨b, 7, none⟩ = some a7 :=
  ⟨h.cell rfl, h.cell rfl, h.cell rfl, h.cell rfl, h.cell rfl, h.cell rfl, h.cell rfl, h.cell rfl⟩
theorem st8 {w : World} {b : Nat} {t : TypeId} {a0 a1 a2 a3 a4 a5 a6 a7 : Value} (h : Blk w b #[a0, a1, a2, a3, a4, a5, a6, a7] t) : (∀ s : St (· = w), s.val.cell? ⟨b, 0, none⟩ = some a0) ∧ (∀ s : St (· = w), s.val.cell? ⟨b, 1, none⟩ = some a1) ∧ (∀ s : St (· = w), s.val.cell? ⟨b, 2, none⟩ = some a2) ∧ (∀ s : St (· = w), s.val.cell? ⟨b, 3, none⟩ = some a3) ∧ (∀ s : St (· = w), s.val.cell? ⟨b, 4, none⟩ = some a4) ∧ (∀ s : St (· = w), s.val.cell? ⟨b, 5, none⟩ = some a5) ∧ (∀ s : St (· = w), s.val.cell? ⟨b, 6, none⟩ = some a6) ∧ (∀ s : St (· = w), s.val.cell? ⟨b, 7, none⟩ = some a7) := by
  obtain ⟨x0, x1, x2, x3, x4, x5, x6, x7⟩ := cells8 h
  exact ⟨fun s => by rw [s.ok]; exact x0, fun s => by rw [s.ok]; exact x1, fun s => by rw [s.ok]; exact x2, fun s => by rw [s.ok]; exact x3, fun s => by rw [s.ok]; exact x4, fun s => by rw [s.ok]; exact x5, fun s => by rw [s.ok]; exact x6, fun s => by rw [s.ok]; exact x7⟩
theorem cells15 {w : World} {b : Nat} {t : TypeId} {a0 a1 a2 a3 a4 a5 a6 a7 a8 a9 a10 a11 a12 a13 a14 : Value} (h : Blk w b #[a0, a1, a2, a3, a4, a5, a6, a7, a8, a9, a10, a11, a12, a13, a14] t) : w.cell? ⟨b, 0, none⟩ = some a0 ∧ w.cell? ⟨b, 1, none⟩ = some a1 ∧ w.cell? ⟨b, 2, none⟩ = some a2 ∧ w.cell? ⟨b, 3, none⟩ = some a3 ∧ w.cell? ⟨b, 4, none⟩ = some a4 ∧ w.cell? ⟨b, 5, none⟩ = some a5 ∧ w.cell? ⟨b, 6, none⟩ = some a6 ∧ w.cell? ⟨b, 7, none⟩ = some a7 ∧ w.cell? ⟨b, 8, none⟩ = some a8 ∧ w.cell? ⟨b, 9, none⟩ = some a9 ∧ w.cell? ⟨b, 10, none⟩ = some a10 ∧ w.cell? ⟨b, 11, none⟩ = some a11 ∧ w.cell? ⟨b, 12, none⟩ = some a12 ∧ w.cell? ⟨b, 13, none⟩ = some a13 ∧ w.cell? ⟨b, 14, none⟩ = some a14 :=
  ⟨h.cell rfl, h.cell rfl, h.cell rfl, h.cell rfl, h.cell rfl, h.cell rfl, h.cell rfl, h.cell rfl, h.cell rfl, h.cell rfl, h.cell rfl, h.cell rfl, h.cell rfl, h.cell rfl, h.cell rfl⟩
theorem st15 {w : World} {b : Nat} {t : TypeId} {a0 a1 a2 a3 a4 a5 a6 a7 a8 a9 a10 a11 a12 a13 a14 : Value} (h : Blk w b #[a0, a1, a2, a3, a4, a5, a6, a7, a8, a9, a10, a11, a12, a13, a14] t) : (∀ s : St (· = w), s.val.cell? ⟨b, 0, none⟩ = some a0) ∧ (∀ s : St (· = w), s.val.cell? ⟨b, 1, none⟩ = some a1) ∧ (∀ s : St (· = w), s.val.cell? ⟨b, 2, none⟩ = some a2) ∧ (∀ s : St (· = w), s.val.cell? ⟨b, 3, none⟩ = some a3) ∧ (∀ s : St (· = w), s.val.cell? ⟨b, 4, none⟩ = some a4) ∧ (∀ s : St (· = w), s.val.cell? ⟨b, 5, none⟩ = some a5) ∧ (∀ s : St (· = w), s.val.cell? ⟨b, 6, none⟩ = some a6) ∧ (∀ s : St (· = w), s.val.cell? ⟨b, 7, none⟩ = some a7) ∧ (∀ s : St (· = w), s.val.cell? ⟨b, 8, none⟩ = some a8) ∧ (∀ s : St (· = w), s.val.cell? ⟨b, 9, none⟩ = some a9) ∧ (∀ s : St (· = w), s.val.cell? ⟨b, 10, none⟩ = some a10) ∧ (∀ s : St (· = w), s.val.cell? ⟨b, 11, none⟩ = some a11) ∧ (∀ s : St (· = w), s.val.cell? ⟨b, 12, none⟩ = some a12) ∧ (∀ s : St (· = w), s.val.cell? ⟨b, 13, none⟩ = some a13) ∧ (∀ s : St (· = w), s.val.cell? ⟨b, 14, none⟩ = some a14) := by
  obtain ⟨x0, x1, x2, x3, x4, x5, x6, x7, x8, x9, x10, x11, x12, x13, x14⟩ := cells15 h
  exact ⟨fun s => by rw [s.ok]; exact x0, fun s => by rw [s.ok]; exact x1, fun s => by rw [s.ok]; exact x2, fun s => by rw [s.ok]; exact x3, fun s => by rw [s.ok]; exact x4, fun s => by rw [s.ok]; exact x5, fun s => by rw [s.ok]; exact x6, fun s => by rw [s.ok]; exact x7, fun s => by rw [s.ok]; exact x8, fun s => by rw [s.ok]; exact x9, fun s => by rw [s.ok]; exact x10, fun s => by rw [s.ok]; exact x11, fun s => by rw [s.ok]; exact x12, fun s => by rw [s.ok]; exact x13, fun s => by rw [s.ok]; exact x14⟩
theorem info40 : (Try.prog.info? 40).map (fun i => (i.zero, i.size, i.bytes)) = some (some (.int .u64 0), 1, 8) := by kernel_rfl
theorem Words.elem {w : World} {a : Addr} {cap : Nat} {l : List Int} (h : Words w (.slice (some a) l.length cap) l) {i : Nat} (hi : i < l.length) : w.cell? (a.add i) = some (.int .u64 (l.getD i 0)) := by
  rcases h with ⟨e, _⟩ | ⟨a', cap', e, _, h⟩
  · simp at e
  · cases e; exact h i hi
theorem Words.cap {w : World} {a : Addr} {cap : Nat} {l : List Int} (h : Words w (.slice (some a) l.length cap) l) : l.length ≤ cap := by
  rcases h with ⟨e, _⟩ | ⟨a', cap', e, hc, h⟩
  · simp at e
  · cases e; exact hc
theorem Words.addr {w : World} {v : Value} {l : List Int} (h : Words w v l) (hl : l ≠ []) : ∃ (a : Addr) (cap : Nat), v = .slice (some a) l.length cap := by
  rcases h with ⟨_, e⟩ | ⟨a, cap, e, _⟩
  · exact absurd e hl
  · exact ⟨a, cap, e⟩

theorem Words.slice {w : World} {v : Value} {l : List Int} (h : Words w v l) : ∃ (a : Option Addr) (cap : Nat), v = .slice a l.length cap := by
  rcases h with ⟨rfl, rfl⟩ | ⟨a, cap, rfl, _⟩
  · exact ⟨none, 0, rfl⟩
  · exact ⟨some a, cap, rfl⟩

def rval (s : Value) (count : Int) (a : Acc) : Value := .agg #[s, .int .i64 count, .int .i64 a.kind, .int .i64 a.cell, .int .u64 a.via, .int .u64 a.old, .int .u64 a.new, .bool a.done]



/-- A row of words of the call's own, from its head on. -/
structure OwnWords (w : World) (q cap : Nat) (cur : Array Value) (l : List Int) : Prop where
  blk : Blk w q cur 40
  size : cur.size = cap
  le : l.length ≤ cap
  get : ∀ i, i < l.length → cur[i]? = some (.int .u64 (l.getD i 0))

theorem OwnWords.words {w : World} {q cap : Nat} {cur : Array Value} {l : List Int} (h : OwnWords w q cap cur l) : Words w (.slice (some ⟨q, 0, none⟩) l.length cap) l := by
  refine .inr ⟨⟨q, 0, none⟩, cap, rfl, h.le, fun i hi => ?_⟩
  have h1 : w.cell? ⟨q, i, none⟩ = some (.int .u64 (l.getD i 0)) := h.blk.cell (h.get i hi)
  by_cases h0 : i = 0
  · subst h0; simpa [Addr.add] using h1
  · simpa [Addr.add, h0] using h1

theorem wpList_append_words {P : Program} {w : World} {ops : Array Oper} {rest : List Oper} {o : Oper} {a : Act} {Q : Exit → Act → World → Prop} (hgd : o.guard = none) (s x : Operand) (t : TypeId)
    (ho : o.op = .call { callee := .builtin .append, args := #[s, x], argTypes := #[t, t] }) (ht : P.underlying t = some (.slice 40)) (hinfo : (P.info? 40).map (fun i => (i.zero, i.size, i.bytes)) = some (some (.int .u64 0), 1, 8))
    (g : Nat) (l : List Int) (v : Value) (hs : a.eval s = .slice (some ⟨g, 0, none⟩) 0 0) (hx : a.eval x = v) (hg : Blk w g #[] 40) (hv : Words w v l) (hl : l.length ≤ 17592186044416)
    (h : ∀ q cap cur w', g ≤ q → Hid (OwnWords w' q cap cur l) → Chg (· = g) w w' → wpList P ops Q rest (a.put o.dst (.slice (some ⟨q, 0, none⟩) l.length cap)) w') :
    wpList P ops Q (o :: rest) a w := by
  obtain ⟨i0, hi, hz0, hz1, hz2⟩ := info_parts hinfo
  have hown : w.ownsRow g 40 1 (.slice (some ⟨g, 0, none⟩) 0 0) 0 [] := ⟨rfl, .inr ⟨g, 0, #[], rfl, Nat.le_refl _, hg, Nat.le_refl _, Nat.zero_le _, rfl, rfl⟩⟩
  rcases hv with ⟨rfl, rfl⟩ | ⟨ad, cp, rfl, hc, hcell⟩
  · refine wpList_append_own_none hgd s x t ho g 40 i0 1 ht hi _ 0 [] hs hown hx ?_
    exact h g 0 #[] w (Nat.le_refl _) ⟨hg, rfl, Nat.le_refl _, fun i hi => absurd hi (Nat.not_lt_zero _)⟩ (Chg.refl _ _)
  · refine wpList_append_own w hgd s x t ho g 40 i0 (.int .u64 0) 1 8 ht hi hz0 hz1 hz2 rfl (by decide) _ 0 [] hs hown ad l.length cp (l.map (Value.int .u64)) hx (by simp) ?_ ?_ (by simp [maxLen]; omega) (by omega) (Nat.le_of_lt hg.lt) ?_
    · intro j u hu
      rw [List.getElem?_map] at hu
      cases hj : l[j]? with
      | none => simp [hj] at hu
      | some y =>
        have hlt := (List.getElem?_eq_some_iff.1 hj).1
        have h1 := hcell j hlt
        simp only [hj, Option.map_some, Option.some.injEq] at hu
        rw [← hu, h1]
        simp [List.getD, hj]
    · intro u hu
      obtain ⟨y, _, rfl⟩ := List.mem_map.1 hu
      rfl
    · intro v' w' hown' hgrow hnil
      simp only [Nat.zero_add, List.nil_append] at hown'
      obtain ⟨hlen, hv' | ⟨q, cap, cur, rfl, hq, hh, hn, hcap, hsize, htake⟩⟩ := hown'
      · have := hnil.1 hv'.1
        simp at this
      · refine h q cap cur w' hq ⟨hh, by simpa using hsize, hn, fun i hi => ?_⟩ ⟨hgrow.os, hgrow.tape, hgrow.output, hgrow.size, fun k hk hne => hgrow.block k hk (by simp [Value.ownBlock]; exact hne)⟩
        have h1 : (cur.toList.take (l.length * 1))[i]? = (l.map (Value.int .u64))[i]? := by rw [htake]
        simp only [Nat.mul_one, List.getElem?_take, hi, if_true] at h1
        simp only [Array.getElem?_toList] at h1
        rw [h1]
        simp [List.getD, hi]


/-- A slice is the same, or lies in new memory. -/
def Fresh (w : World) (s s' : Value) : Prop := s' = s ∨ ∀ a n c, s' = .slice (some a) n c → w.heap.size ≤ a.block

/-- What the reference's access leaves. -/
def RDone (w : World) (s : Value) (B : Bk) (e : Ending) (w' : World) : Prop := ∃ s', e = .returned (.tuple #[rval s' B.count B.last, B.last.val]) ∧ Words w' s' B.cells ∧ Gr w w' ∧ Fresh w s s'

theorem Words.at {w : World} {a : Addr} {cap : Nat} {l : List Int} (h : Words w (.slice (some a) l.length cap) l) {n : Nat} (hn : n < l.length) :
    ∃ b off : Nat, a = ⟨b, off, none⟩ ∧ b < w.heap.size ∧ w.cell? ⟨b, off + n, none⟩ = some (.int .u64 (l.getD n 0)) := by
  obtain ⟨b, off, spot⟩ := a
  have h1 := h.elem (i := 0) (by omega)
  have hs : spot = none := by simpa [Addr.add] using World.cell?_spot h1
  subst hs
  have hlt := lt_of_cell h1
  refine ⟨b, off, rfl, by simpa [Addr.add] using hlt, ?_⟩
  have h2 := h.elem hn
  by_cases h0 : n = 0
  · subst h0; simpa [Addr.add] using h2
  · simpa [Addr.add, h0] using h2

theorem set_same {l : List Int} {n : Nat} {x : Int} (hn : n < l.length) (hx : l.getD n 0 = x) : l.set n x = l := by
  rw [← hx, List.getD_eq_getElem?_getD, List.getElem?_eq_getElem hn]
  simp

theorem OwnWords.set {w : World} {q cap : Nat} {cur : Array Value} {l : List Int} (h : OwnWords w q cap cur l) (n : Nat) (x : Int) : OwnWords (w.setCell ⟨q, n, none⟩ (.int .u64 x)) q cap (cur.setIfInBounds n (.int .u64 x)) (l.set n x) := by
  refine ⟨h.blk.set n _, by simpa using h.size, by simpa using h.le, fun i hi => ?_⟩
  rw [List.length_set] at hi
  have h1 := h.get i hi
  have hlt := (Array.getElem?_eq_some_iff.1 h1).1
  by_cases hin : n = i
  · subst hin
    rw [Array.getElem?_setIfInBounds_self_of_lt hlt]
    simp [List.getD_eq_getElem?_getD, hi]
  · rw [Array.getElem?_setIfInBounds_ne hin, h1]
    simp [List.getD_eq_getElem?_getD, List.getElem?_set_ne hin]
theorem OwnWords.set_other {w : World} {q cap : Nat} {cur : Array Value} {l : List Int} (h : OwnWords w q cap cur l) {a : Addr} (ha : q ≠ a.block) (u : Value) : OwnWords (w.setCell a u) q cap cur l := ⟨h.blk.set_other ha u, h.size, h.le, h.get⟩
theorem OwnWords.drew {w : World} {q cap : Nat} {cur : Array Value} {l : List Int} (h : OwnWords w q cap cur l) : OwnWords w.drew q cap cur l := ⟨h.blk, h.size, h.le, h.get⟩

theorem Blk.of_eq {w : World} {b : Nat} {c c' : Array Value} {t : TypeId} (h : Blk w b c t) (e : c = c') : Blk w b c' t := e ▸ h

theorem res92 (t : Array Value) (x y : Nat) (W : World) (s : Value) (k : Int) (a a' : Acc) (hs : ∃ p n c, s = .slice p n c) (hx : t.getD 12 undef = .pointer (some ⟨x, 0, none⟩)) (hy : t.getD 13 undef = .pointer (some ⟨y, 0, none⟩))
    (bx : Blk W x #[s, .int .i64 k, .int .i64 a.kind, .int .i64 a.cell, .int .u64 a.via, .int .u64 a.old, .int .u64 a.new, .bool a.done] 48) (by' : Blk W y #[.int .i64 a'.kind, .int .i64 a'.cell, .int .u64 a'.via, .int .u64 a'.old, .int .u64 a'.new, .bool a'.done] 46) :
    (results Try.f92 t).run Try.prog W = .ok (.tuple #[rval s k a, a'.val]) W := by
  obtain ⟨p, n, c, rfl⟩ := hs
  have x0 : W.cell? ⟨x, 0, none⟩ = some (.slice p n c) := bx.cell rfl
  have x1 : W.cell? ⟨x, 1, none⟩ = some (.int .i64 k) := bx.cell rfl
  have x2 : W.cell? ⟨x, 2, none⟩ = some (.int .i64 a.kind) := bx.cell rfl
  have x3 : W.cell? ⟨x, 3, none⟩ = some (.int .i64 a.cell) := bx.cell rfl
  have x4 : W.cell? ⟨x, 4, none⟩ = some (.int .u64 a.via) := bx.cell rfl
  have x5 : W.cell? ⟨x, 5, none⟩ = some (.int .u64 a.old) := bx.cell rfl
  have x6 : W.cell? ⟨x, 6, none⟩ = some (.int .u64 a.new) := bx.cell rfl
  have x7 : W.cell? ⟨x, 7, none⟩ = some (.bool a.done) := bx.cell rfl
  have y0 : W.cell? ⟨y, 0, none⟩ = some (.int .i64 a'.kind) := by'.cell rfl
  have y1 : W.cell? ⟨y, 1, none⟩ = some (.int .i64 a'.cell) := by'.cell rfl
  have y2 : W.cell? ⟨y, 2, none⟩ = some (.int .u64 a'.via) := by'.cell rfl
  have y3 : W.cell? ⟨y, 3, none⟩ = some (.int .u64 a'.old) := by'.cell rfl
  have y4 : W.cell? ⟨y, 4, none⟩ = some (.int .u64 a'.new) := by'.cell rfl
  have y5 : W.cell? ⟨y, 5, none⟩ = some (.bool a'.done) := by'.cell rfl
  simp only [Array.getD_eq_getD_getElem?] at hx hy
  simp [results, Try.results92, go_sem, rval, Acc.val, hx, hy, x0, x1, x2, x3, x4, x5, x6, x7, y0, y1, y2, y3, y4, y5]

set_option maxRecDepth 100000 in
set_option maxHeartbeats 2000000 in
theorem rdo_load (b off : Nat) (cap : Nat) (B : Bk) (n : Nat) (via old v had : Int) (w : World) (hv : Words w (.slice (some ⟨b, off, none⟩) B.cells.length cap) B.cells) (hn : n < B.cells.length) (hh : w.cell? ⟨b, off + n, none⟩ = some (.int .u64 had)) (hget : B.cells.getD n 0 = had) (hl : B.cells.length ≤ 400) :
    Calls Try.prog 92 #[rval (.slice (some ⟨b, off, none⟩) B.cells.length cap) B.count B.last, .int .i64 1, .int .i64 n, .int .u64 via, .int .u64 old, .int .u64 v] w (RDone w (.slice (some ⟨b, off, none⟩) B.cells.length cap) (B.done 1 n via had had true)) := by
  have HV := hid hv
  have HG := hid hget
  have hlb : b < w.heap.size := lt_of_cell hh
  have hn' : (n : Int) < B.cells.length := by omega
  have hn0 : 0 ≤ (n : Int) := by omega
  have hb1 : b < w.heap.size + 1 := by omega
  have hb2 : b < w.heap.size + 2 := by omega
  have hb3 : b < w.heap.size + 3 := by omega
  have hb4 : b < w.heap.size + 4 := by omega
  have hb5 : b < w.heap.size + 5 := by omega
  unfold rval
  clear hv hget
  go_enter Try.func92, Try.ntmps92
  go_wp2_with fail
  go_region
  go_wp2
  refine bodyPost_ret (v := .tuple #[rval (.slice (some ⟨b, off, none⟩) B.cells.length cap) (B.done 1 n via had had true).count (B.done 1 n via had had true).last, (B.done 1 n via had had true).last.val]) (by simp [results, Try.results92, go_sem, rval, Acc.val, Bk.done]) rfl ⟨_, rfl, ?_, ?_, .inl rfl⟩
  · show Words _ _ (B.cells.set n had)
    rw [set_same hn (HG.out)]
    refine HV.out.gr ?_
    repeat (first | (with_reducible exact Gr.refl _) | (with_reducible refine Gr.drew ?_) | (with_reducible refine Gr.drewN ?_ _) | (with_reducible refine Gr.alloc ?_ _) | ((with_reducible refine Gr.setCell ?_ ?_ _); rotate_left; focus (simp <;> omega)))
  · repeat (first | (with_reducible exact Gr.refl _) | (with_reducible refine Gr.drew ?_) | (with_reducible refine Gr.drewN ?_ _) | (with_reducible refine Gr.alloc ?_ _) | ((with_reducible refine Gr.setCell ?_ ?_ _); rotate_left; focus (simp <;> omega)))

set_option maxRecDepth 100000 in
set_option maxHeartbeats 2000000 in
theorem rdo_low (s : Option Addr) (cap : Nat) (B : Bk) (kind cell via old v : Int) (w : World) (hv : Words w (.slice s B.cells.length cap) B.cells) (h : cell < 0) :
    Calls Try.prog 92 #[rval (.slice s B.cells.length cap) B.count B.last, .int .i64 kind, .int .i64 cell, .int .u64 via, .int .u64 old, .int .u64 v] w (RDone w (.slice s B.cells.length cap) (B.none kind cell via)) := by
  have HV := hid hv
  unfold rval
  clear hv
  go_enter Try.func92, Try.ntmps92
  go_wp2_with fail
  go_region
  go_wp2
  refine bodyPost_ret (v := .tuple #[rval (.slice s B.cells.length cap) (B.none kind cell via).count (B.none kind cell via).last, (B.none kind cell via).last.val]) (by simp [results, Try.results92, go_sem, rval, Acc.val, Bk.none]) rfl ⟨_, rfl, ?_, ?_, .inl rfl⟩
  · show Words _ _ B.cells
    refine HV.out.gr ?_
    repeat (first | (with_reducible exact Gr.refl _) | (with_reducible refine Gr.drew ?_) | (with_reducible refine Gr.drewN ?_ _) | (with_reducible refine Gr.alloc ?_ _) | ((with_reducible refine Gr.setCell ?_ ?_ _); rotate_left; focus (simp <;> omega)))
  · repeat (first | (with_reducible exact Gr.refl _) | (with_reducible refine Gr.drew ?_) | (with_reducible refine Gr.drewN ?_ _) | (with_reducible refine Gr.alloc ?_ _) | ((with_reducible refine Gr.setCell ?_ ?_ _); rotate_left; focus (simp <;> omega)))

set_option maxRecDepth 100000 in
set_option maxHeartbeats 2000000 in
theorem rdo_high (s : Option Addr) (cap : Nat) (B : Bk) (kind cell via old v : Int) (w : World) (hv : Words w (.slice s B.cells.length cap) B.cells) (h0 : 0 ≤ cell) (h : ¬ cell < (B.cells.length : Int)) :
    Calls Try.prog 92 #[rval (.slice s B.cells.length cap) B.count B.last, .int .i64 kind, .int .i64 cell, .int .u64 via, .int .u64 old, .int .u64 v] w (RDone w (.slice s B.cells.length cap) (B.none kind cell via)) := by
  have HV := hid hv
  unfold rval
  clear hv
  go_enter Try.func92, Try.ntmps92
  go_wp2_with fail
  go_region
  go_wp2
  refine bodyPost_ret (v := .tuple #[rval (.slice s B.cells.length cap) (B.none kind cell via).count (B.none kind cell via).last, (B.none kind cell via).last.val]) (by simp [results, Try.results92, go_sem, rval, Acc.val, Bk.none]) rfl ⟨_, rfl, ?_, ?_, .inl rfl⟩
  · show Words _ _ B.cells
    refine HV.out.gr ?_
    repeat (first | (with_reducible exact Gr.refl _) | (with_reducible refine Gr.drew ?_) | (with_reducible refine Gr.drewN ?_ _) | (with_reducible refine Gr.alloc ?_ _) | ((with_reducible refine Gr.setCell ?_ ?_ _); rotate_left; focus (simp <;> omega)))
  · repeat (first | (with_reducible exact Gr.refl _) | (with_reducible refine Gr.drew ?_) | (with_reducible refine Gr.drewN ?_ _) | (with_reducible refine Gr.alloc ?_ _) | ((with_reducible refine Gr.setCell ?_ ?_ _); rotate_left; focus (simp <;> omega)))

set_option maxRecDepth 100000 in
set_option maxHeartbeats 2000000 in
theorem rdo_store (b off : Nat) (cap : Nat) (B : Bk) (n : Nat) (via old v had : Int) (w : World) (hv : Words w (.slice (some ⟨b, off, none⟩) B.cells.length cap) B.cells) (hn : n < B.cells.length) (hh : w.cell? ⟨b, off + n, none⟩ = some (.int .u64 had)) (hget : B.cells.getD n 0 = had) (hl : B.cells.length ≤ 400) (f1 : (v != had) = true) :
    Calls Try.prog 92 #[rval (.slice (some ⟨b, off, none⟩) B.cells.length cap) B.count B.last, .int .i64 2, .int .i64 n, .int .u64 via, .int .u64 old, .int .u64 v] w (RDone w (.slice (some ⟨b, off, none⟩) B.cells.length cap) (B.done 2 n via had v true)) := by
  have HV := hid hv
  have HG := hid hget
  have hlb : b < w.heap.size := lt_of_cell hh
  have hn' : (n : Int) < B.cells.length := by omega
  have hn0 : 0 ≤ (n : Int) := by omega
  have hb1 : b < w.heap.size + 1 := by omega
  have hb2 : b < w.heap.size + 2 := by omega
  have hb3 : b < w.heap.size + 3 := by omega
  have hb4 : b < w.heap.size + 4 := by omega
  have hb5 : b < w.heap.size + 5 := by omega
  unfold rval
  clear hv hget
  go_enter Try.func92, Try.ntmps92
  go_wp2_with (with_reducible refine wpList_append_words rfl (.tmp 76) (.tmp 78) 39 rfl Try.underlying39 info40 (w.heap.size + 1 + 1 + 1 + 1 + 1) B.cells _ rfl rfl ?c1 ?c2 ?c3 ?_)
  case c1 => exact Blk.new' (by simp)
  case c2 => exact HV.out.gr ((((((Gr.refl w).alloc _).alloc _).alloc _).alloc _).alloc _ |>.alloc _)
  case c3 => omega
  intro q cap1 cur w1 hq ho c1
  have GW := hid (Gr.step (a := w) (by repeat (first | exact Gr.refl _ | refine Gr.alloc ?_ _)) c1 (by rintro i rfl; omega))
  have hqs := ho.out.blk.lt
  have hs0 := c1.size
  simp only [World.size_alloc] at hs0
  have X : Blk w1 (w.heap.size + 1) #[.slice none 0 0, .int .i64 0, .int .i64 0, .int .i64 0, .int .u64 0, .int .u64 0, .int .u64 0, .bool false] 48 := Blk.chg (by repeat (first | exact Blk.new' (by simp) | refine Blk.alloc ?_ _)) c1 (by simp <;> omega)
  have x0 : w1.cell? ⟨w.heap.size + 1, 0, none⟩ = some (.slice none 0 0) := X.cell rfl
  have x1 : w1.cell? ⟨w.heap.size + 1, 1, none⟩ = some (.int .i64 0) := X.cell rfl
  have x2 : w1.cell? ⟨w.heap.size + 1, 2, none⟩ = some (.int .i64 0) := X.cell rfl
  have x3 : w1.cell? ⟨w.heap.size + 1, 3, none⟩ = some (.int .i64 0) := X.cell rfl
  have x4 : w1.cell? ⟨w.heap.size + 1, 4, none⟩ = some (.int .u64 0) := X.cell rfl
  have x5 : w1.cell? ⟨w.heap.size + 1, 5, none⟩ = some (.int .u64 0) := X.cell rfl
  have x6 : w1.cell? ⟨w.heap.size + 1, 6, none⟩ = some (.int .u64 0) := X.cell rfl
  have x7 : w1.cell? ⟨w.heap.size + 1, 7, none⟩ = some (.bool false) := X.cell rfl
  have xf := X.free
  have Y : Blk w1 (w.heap.size + 1 + 1) #[.int .i64 0, .int .i64 0, .int .u64 0, .int .u64 0, .int .u64 0, .bool false] 46 := Blk.chg (by repeat (first | exact Blk.new' (by simp) | refine Blk.alloc ?_ _)) c1 (by simp <;> omega)
  have y0 : w1.cell? ⟨w.heap.size + 1 + 1, 0, none⟩ = some (.int .i64 0) := Y.cell rfl
  have y1 : w1.cell? ⟨w.heap.size + 1 + 1, 1, none⟩ = some (.int .i64 0) := Y.cell rfl
  have y2 : w1.cell? ⟨w.heap.size + 1 + 1, 2, none⟩ = some (.int .u64 0) := Y.cell rfl
  have y3 : w1.cell? ⟨w.heap.size + 1 + 1, 3, none⟩ = some (.int .u64 0) := Y.cell rfl
  have y4 : w1.cell? ⟨w.heap.size + 1 + 1, 4, none⟩ = some (.int .u64 0) := Y.cell rfl
  have y5 : w1.cell? ⟨w.heap.size + 1 + 1, 5, none⟩ = some (.bool false) := Y.cell rfl
  have yf := Y.free
  have Z : Blk w1 (w.heap.size + 1 + 1 + 1) #[.int .i64 2, .int .i64 n, .int .u64 via, .int .u64 had, .int .u64 v, .bool true] 46 := Blk.chg (by repeat (first | exact Blk.new' (by simp) | refine Blk.alloc ?_ _)) c1 (by simp <;> omega)
  have z0 : w1.cell? ⟨w.heap.size + 1 + 1 + 1, 0, none⟩ = some (.int .i64 2) := Z.cell rfl
  have z1 : w1.cell? ⟨w.heap.size + 1 + 1 + 1, 1, none⟩ = some (.int .i64 n) := Z.cell rfl
  have z2 : w1.cell? ⟨w.heap.size + 1 + 1 + 1, 2, none⟩ = some (.int .u64 via) := Z.cell rfl
  have z3 : w1.cell? ⟨w.heap.size + 1 + 1 + 1, 3, none⟩ = some (.int .u64 had) := Z.cell rfl
  have z4 : w1.cell? ⟨w.heap.size + 1 + 1 + 1, 4, none⟩ = some (.int .u64 v) := Z.cell rfl
  have z5 : w1.cell? ⟨w.heap.size + 1 + 1 + 1, 5, none⟩ = some (.bool true) := Z.cell rfl
  have zf := Z.free
  have U : Blk w1 (w.heap.size + 1 + 1 + 1 + 1) #[.slice (some ⟨b, off, none⟩) B.cells.length cap, .int .i64 (wrap64 (B.count + 1)), .int .i64 0, .int .i64 0, .int .u64 0, .int .u64 0, .int .u64 0, .bool false] 48 := Blk.chg (by repeat (first | exact Blk.new' (by simp) | refine Blk.alloc ?_ _)) c1 (by simp <;> omega)
  have u0 : w1.cell? ⟨w.heap.size + 1 + 1 + 1 + 1, 0, none⟩ = some (.slice (some ⟨b, off, none⟩) B.cells.length cap) := U.cell rfl
  have u1 : w1.cell? ⟨w.heap.size + 1 + 1 + 1 + 1, 1, none⟩ = some (.int .i64 (wrap64 (B.count + 1))) := U.cell rfl
  have u2 : w1.cell? ⟨w.heap.size + 1 + 1 + 1 + 1, 2, none⟩ = some (.int .i64 0) := U.cell rfl
  have u3 : w1.cell? ⟨w.heap.size + 1 + 1 + 1 + 1, 3, none⟩ = some (.int .i64 0) := U.cell rfl
  have u4 : w1.cell? ⟨w.heap.size + 1 + 1 + 1 + 1, 4, none⟩ = some (.int .u64 0) := U.cell rfl
  have u5 : w1.cell? ⟨w.heap.size + 1 + 1 + 1 + 1, 5, none⟩ = some (.int .u64 0) := U.cell rfl
  have u6 : w1.cell? ⟨w.heap.size + 1 + 1 + 1 + 1, 6, none⟩ = some (.int .u64 0) := U.cell rfl
  have u7 : w1.cell? ⟨w.heap.size + 1 + 1 + 1 + 1, 7, none⟩ = some (.bool false) := U.cell rfl
  have uf := U.free
  have hnq : ∀ i, i ≤ 5 → w.heap.size + i ≠ q ∨ i = 5 := by intro i hi; omega
  have qq := ho.out.blk.free
  have qn := ho.out.blk.cell (ho.out.get n hn)
  go_wp2
  go_region
  go_wp2
  refine bodyPost_ret (v := .tuple #[rval (.slice (some ⟨q, 0, none⟩) B.cells.length cap1) (B.done 2 n via had v true).count (B.done 2 n via had v true).last, (B.done 2 n via had v true).last.val]) (res92 _ (w.heap.size + 1) (w.heap.size + 1 + 1) _ _ _ _ _ ⟨_, _, _, rfl⟩ rfl rfl ?_ ?_) rfl ⟨_, rfl, ?_, ?_, .inr (by intro a n c e; cases e; show w.heap.size ≤ q; omega)⟩
  · refine Blk.of_eq (c := (((((((((#[.slice none 0 0, .int .i64 0, .int .i64 0, .int .i64 0, .int .u64 0, .int .u64 0, .int .u64 0, .bool false] : Array Value).setIfInBounds 0 (.slice (some ⟨q, 0, none⟩) B.cells.length cap1)).setIfInBounds 1 (.int .i64 (wrap64 (B.count + 1)))).setIfInBounds 2 (.int .i64 2)).setIfInBounds 3 (.int .i64 n)).setIfInBounds 4 (.int .u64 via)).setIfInBounds 5 (.int .u64 had)).setIfInBounds 6 (.int .u64 v)).setIfInBounds 7 (.bool true))) ?hx ?ex
    case hx => repeat (first | (with_reducible exact X) | (with_reducible refine Blk.set ?_ _ _) | (with_reducible refine Blk.drew ?_) | ((with_reducible refine Blk.set_other ?_ ?_ _); rotate_left; focus (simp <;> omega)))
    case ex => rfl
  · refine Blk.of_eq (c := (((((((#[.int .i64 0, .int .i64 0, .int .u64 0, .int .u64 0, .int .u64 0, .bool false] : Array Value).setIfInBounds 0 (.int .i64 2)).setIfInBounds 1 (.int .i64 n)).setIfInBounds 2 (.int .u64 via)).setIfInBounds 3 (.int .u64 had)).setIfInBounds 4 (.int .u64 v)).setIfInBounds 5 (.bool true))) ?hy ?ey
    case hy => repeat (first | (with_reducible exact Y) | (with_reducible refine Blk.set ?_ _ _) | (with_reducible refine Blk.drew ?_) | ((with_reducible refine Blk.set_other ?_ ?_ _); rotate_left; focus (simp <;> omega)))
    case ey => rfl
  · show Words _ _ (B.cells.set n v)
    have hlen : B.cells.length = (B.cells.set n v).length := List.length_set.symm
    rw [hlen]
    refine OwnWords.words (cur := cur.setIfInBounds n (.int .u64 v)) ?_
    repeat (first | (with_reducible exact ho.out) | (with_reducible refine OwnWords.set ?_ _ _) | (with_reducible refine OwnWords.drew ?_) | ((with_reducible refine OwnWords.set_other ?_ ?_ _); rotate_left; focus (simp <;> omega)))
  · repeat (first | (with_reducible exact GW.out) | (with_reducible refine Gr.drew ?_) | (with_reducible refine Gr.drewN ?_ _) | ((with_reducible refine Gr.setCell ?_ ?_ _); rotate_left; focus (simp <;> omega)))

set_option maxRecDepth 100000 in
set_option maxHeartbeats 2000000 in
theorem rdo_store_same (b off : Nat) (cap : Nat) (B : Bk) (n : Nat) (via old had : Int) (w : World) (hv : Words w (.slice (some ⟨b, off, none⟩) B.cells.length cap) B.cells) (hn : n < B.cells.length) (hh : w.cell? ⟨b, off + n, none⟩ = some (.int .u64 had)) (hget : B.cells.getD n 0 = had) (hl : B.cells.length ≤ 400) :
    Calls Try.prog 92 #[rval (.slice (some ⟨b, off, none⟩) B.cells.length cap) B.count B.last, .int .i64 2, .int .i64 n, .int .u64 via, .int .u64 old, .int .u64 had] w (RDone w (.slice (some ⟨b, off, none⟩) B.cells.length cap) (B.done 2 n via had had true)) := by
  have HV := hid hv
  have HG := hid hget
  have hlb : b < w.heap.size := lt_of_cell hh
  have hn' : (n : Int) < B.cells.length := by omega
  have hn0 : 0 ≤ (n : Int) := by omega
  have hb1 : b < w.heap.size + 1 := by omega
  have hb2 : b < w.heap.size + 2 := by omega
  have hb3 : b < w.heap.size + 3 := by omega
  have hb4 : b < w.heap.size + 4 := by omega
  have hb5 : b < w.heap.size + 5 := by omega
  unfold rval
  clear hv hget
  go_enter Try.func92, Try.ntmps92
  go_wp2_with fail
  go_region
  go_wp2
  refine bodyPost_ret (v := .tuple #[rval (.slice (some ⟨b, off, none⟩) B.cells.length cap) (B.done 2 n via had had true).count (B.done 2 n via had had true).last, (B.done 2 n via had had true).last.val]) (by simp [results, Try.results92, go_sem, rval, Acc.val, Bk.done]) rfl ⟨_, rfl, ?_, ?_, .inl rfl⟩
  · show Words _ _ (B.cells.set n had)
    rw [set_same hn (HG.out)]
    refine HV.out.gr ?_
    repeat (first | (with_reducible exact Gr.refl _) | (with_reducible refine Gr.drew ?_) | (with_reducible refine Gr.drewN ?_ _) | (with_reducible refine Gr.alloc ?_ _) | ((with_reducible refine Gr.setCell ?_ ?_ _); rotate_left; focus (simp <;> omega)))
  · repeat (first | (with_reducible exact Gr.refl _) | (with_reducible refine Gr.drew ?_) | (with_reducible refine Gr.drewN ?_ _) | (with_reducible refine Gr.alloc ?_ _) | ((with_reducible refine Gr.setCell ?_ ?_ _); rotate_left; focus (simp <;> omega)))

set_option maxRecDepth 100000 in
set_option maxHeartbeats 2000000 in
theorem rdo_swap (b off : Nat) (cap : Nat) (B : Bk) (n : Nat) (via v had : Int) (w : World) (hv : Words w (.slice (some ⟨b, off, none⟩) B.cells.length cap) B.cells) (hn : n < B.cells.length) (hh : w.cell? ⟨b, off + n, none⟩ = some (.int .u64 had)) (hget : B.cells.getD n 0 = had) (hl : B.cells.length ≤ 400) (f1 : (v != had) = true) :
    Calls Try.prog 92 #[rval (.slice (some ⟨b, off, none⟩) B.cells.length cap) B.count B.last, .int .i64 3, .int .i64 n, .int .u64 via, .int .u64 had, .int .u64 v] w (RDone w (.slice (some ⟨b, off, none⟩) B.cells.length cap) (B.done 3 n via had v true)) := by
  have HV := hid hv
  have HG := hid hget
  have hlb : b < w.heap.size := lt_of_cell hh
  have hn' : (n : Int) < B.cells.length := by omega
  have hn0 : 0 ≤ (n : Int) := by omega
  have hb1 : b < w.heap.size + 1 := by omega
  have hb2 : b < w.heap.size + 2 := by omega
  have hb3 : b < w.heap.size + 3 := by omega
  have hb4 : b < w.heap.size + 4 := by omega
  have hb5 : b < w.heap.size + 5 := by omega
  unfold rval
  clear hv hget
  go_enter Try.func92, Try.ntmps92
  go_wp2_with (with_reducible refine wpList_append_words rfl (.tmp 76) (.tmp 78) 39 rfl Try.underlying39 info40 (w.heap.size + 1 + 1 + 1 + 1 + 1) B.cells _ rfl rfl ?c1 ?c2 ?c3 ?_)
  case c1 => exact Blk.new' (by simp)
  case c2 => exact HV.out.gr ((((((Gr.refl w).alloc _).alloc _).alloc _).alloc _).alloc _ |>.alloc _)
  case c3 => omega
  intro q cap1 cur w1 hq ho c1
  have GW := hid (Gr.step (a := w) (by repeat (first | exact Gr.refl _ | refine Gr.alloc ?_ _)) c1 (by rintro i rfl; omega))
  have hqs := ho.out.blk.lt
  have hs0 := c1.size
  simp only [World.size_alloc] at hs0
  have X : Blk w1 (w.heap.size + 1) #[.slice none 0 0, .int .i64 0, .int .i64 0, .int .i64 0, .int .u64 0, .int .u64 0, .int .u64 0, .bool false] 48 := Blk.chg (by repeat (first | exact Blk.new' (by simp) | refine Blk.alloc ?_ _)) c1 (by simp <;> omega)
  have x0 : w1.cell? ⟨w.heap.size + 1, 0, none⟩ = some (.slice none 0 0) := X.cell rfl
  have x1 : w1.cell? ⟨w.heap.size + 1, 1, none⟩ = some (.int .i64 0) := X.cell rfl
  have x2 : w1.cell? ⟨w.heap.size + 1, 2, none⟩ = some (.int .i64 0) := X.cell rfl
  have x3 : w1.cell? ⟨w.heap.size + 1, 3, none⟩ = some (.int .i64 0) := X.cell rfl
  have x4 : w1.cell? ⟨w.heap.size + 1, 4, none⟩ = some (.int .u64 0) := X.cell rfl
  have x5 : w1.cell? ⟨w.heap.size + 1, 5, none⟩ = some (.int .u64 0) := X.cell rfl
  have x6 : w1.cell? ⟨w.heap.size + 1, 6, none⟩ = some (.int .u64 0) := X.cell rfl
  have x7 : w1.cell? ⟨w.heap.size + 1, 7, none⟩ = some (.bool false) := X.cell rfl
  have xf := X.free
  have Y : Blk w1 (w.heap.size + 1 + 1) #[.int .i64 0, .int .i64 0, .int .u64 0, .int .u64 0, .int .u64 0, .bool false] 46 := Blk.chg (by repeat (first | exact Blk.new' (by simp) | refine Blk.alloc ?_ _)) c1 (by simp <;> omega)
  have y0 : w1.cell? ⟨w.heap.size + 1 + 1, 0, none⟩ = some (.int .i64 0) := Y.cell rfl
  have y1 : w1.cell? ⟨w.heap.size + 1 + 1, 1, none⟩ = some (.int .i64 0) := Y.cell rfl
  have y2 : w1.cell? ⟨w.heap.size + 1 + 1, 2, none⟩ = some (.int .u64 0) := Y.cell rfl
  have y3 : w1.cell? ⟨w.heap.size + 1 + 1, 3, none⟩ = some (.int .u64 0) := Y.cell rfl
  have y4 : w1.cell? ⟨w.heap.size + 1 + 1, 4, none⟩ = some (.int .u64 0) := Y.cell rfl
  have y5 : w1.cell? ⟨w.heap.size + 1 + 1, 5, none⟩ = some (.bool false) := Y.cell rfl
  have yf := Y.free
  have Z : Blk w1 (w.heap.size + 1 + 1 + 1) #[.int .i64 3, .int .i64 n, .int .u64 via, .int .u64 had, .int .u64 v, .bool true] 46 := Blk.chg (by repeat (first | exact Blk.new' (by simp) | refine Blk.alloc ?_ _)) c1 (by simp <;> omega)
  have z0 : w1.cell? ⟨w.heap.size + 1 + 1 + 1, 0, none⟩ = some (.int .i64 3) := Z.cell rfl
  have z1 : w1.cell? ⟨w.heap.size + 1 + 1 + 1, 1, none⟩ = some (.int .i64 n) := Z.cell rfl
  have z2 : w1.cell? ⟨w.heap.size + 1 + 1 + 1, 2, none⟩ = some (.int .u64 via) := Z.cell rfl
  have z3 : w1.cell? ⟨w.heap.size + 1 + 1 + 1, 3, none⟩ = some (.int .u64 had) := Z.cell rfl
  have z4 : w1.cell? ⟨w.heap.size + 1 + 1 + 1, 4, none⟩ = some (.int .u64 v) := Z.cell rfl
  have z5 : w1.cell? ⟨w.heap.size + 1 + 1 + 1, 5, none⟩ = some (.bool true) := Z.cell rfl
  have zf := Z.free
  have U : Blk w1 (w.heap.size + 1 + 1 + 1 + 1) #[.slice (some ⟨b, off, none⟩) B.cells.length cap, .int .i64 (wrap64 (B.count + 1)), .int .i64 0, .int .i64 0, .int .u64 0, .int .u64 0, .int .u64 0, .bool false] 48 := Blk.chg (by repeat (first | exact Blk.new' (by simp) | refine Blk.alloc ?_ _)) c1 (by simp <;> omega)
  have u0 : w1.cell? ⟨w.heap.size + 1 + 1 + 1 + 1, 0, none⟩ = some (.slice (some ⟨b, off, none⟩) B.cells.length cap) := U.cell rfl
  have u1 : w1.cell? ⟨w.heap.size + 1 + 1 + 1 + 1, 1, none⟩ = some (.int .i64 (wrap64 (B.count + 1))) := U.cell rfl
  have u2 : w1.cell? ⟨w.heap.size + 1 + 1 + 1 + 1, 2, none⟩ = some (.int .i64 0) := U.cell rfl
  have u3 : w1.cell? ⟨w.heap.size + 1 + 1 + 1 + 1, 3, none⟩ = some (.int .i64 0) := U.cell rfl
  have u4 : w1.cell? ⟨w.heap.size + 1 + 1 + 1 + 1, 4, none⟩ = some (.int .u64 0) := U.cell rfl
  have u5 : w1.cell? ⟨w.heap.size + 1 + 1 + 1 + 1, 5, none⟩ = some (.int .u64 0) := U.cell rfl
  have u6 : w1.cell? ⟨w.heap.size + 1 + 1 + 1 + 1, 6, none⟩ = some (.int .u64 0) := U.cell rfl
  have u7 : w1.cell? ⟨w.heap.size + 1 + 1 + 1 + 1, 7, none⟩ = some (.bool false) := U.cell rfl
  have uf := U.free
  have hnq : ∀ i, i ≤ 5 → w.heap.size + i ≠ q ∨ i = 5 := by intro i hi; omega
  have qq := ho.out.blk.free
  have qn := ho.out.blk.cell (ho.out.get n hn)
  go_wp2
  go_region
  go_wp2
  refine bodyPost_ret (v := .tuple #[rval (.slice (some ⟨q, 0, none⟩) B.cells.length cap1) (B.done 3 n via had v true).count (B.done 3 n via had v true).last, (B.done 3 n via had v true).last.val]) (res92 _ (w.heap.size + 1) (w.heap.size + 1 + 1) _ _ _ _ _ ⟨_, _, _, rfl⟩ rfl rfl ?_ ?_) rfl ⟨_, rfl, ?_, ?_, .inr (by intro a n c e; cases e; show w.heap.size ≤ q; omega)⟩
  · refine Blk.of_eq (c := (((((((((#[.slice none 0 0, .int .i64 0, .int .i64 0, .int .i64 0, .int .u64 0, .int .u64 0, .int .u64 0, .bool false] : Array Value).setIfInBounds 0 (.slice (some ⟨q, 0, none⟩) B.cells.length cap1)).setIfInBounds 1 (.int .i64 (wrap64 (B.count + 1)))).setIfInBounds 2 (.int .i64 3)).setIfInBounds 3 (.int .i64 n)).setIfInBounds 4 (.int .u64 via)).setIfInBounds 5 (.int .u64 had)).setIfInBounds 6 (.int .u64 v)).setIfInBounds 7 (.bool true))) ?hx ?ex
    case hx => repeat (first | (with_reducible exact X) | (with_reducible refine Blk.set ?_ _ _) | (with_reducible refine Blk.drew ?_) | ((with_reducible refine Blk.set_other ?_ ?_ _); rotate_left; focus (simp <;> omega)))
    case ex => rfl
  · refine Blk.of_eq (c := (((((((#[.int .i64 0, .int .i64 0, .int .u64 0, .int .u64 0, .int .u64 0, .bool false] : Array Value).setIfInBounds 0 (.int .i64 3)).setIfInBounds 1 (.int .i64 n)).setIfInBounds 2 (.int .u64 via)).setIfInBounds 3 (.int .u64 had)).setIfInBounds 4 (.int .u64 v)).setIfInBounds 5 (.bool true))) ?hy ?ey
    case hy => repeat (first | (with_reducible exact Y) | (with_reducible refine Blk.set ?_ _ _) | (with_reducible refine Blk.drew ?_) | ((with_reducible refine Blk.set_other ?_ ?_ _); rotate_left; focus (simp <;> omega)))
    case ey => rfl
  · show Words _ _ (B.cells.set n v)
    have hlen : B.cells.length = (B.cells.set n v).length := List.length_set.symm
    rw [hlen]
    refine OwnWords.words (cur := cur.setIfInBounds n (.int .u64 v)) ?_
    repeat (first | (with_reducible exact ho.out) | (with_reducible refine OwnWords.set ?_ _ _) | (with_reducible refine OwnWords.drew ?_) | ((with_reducible refine OwnWords.set_other ?_ ?_ _); rotate_left; focus (simp <;> omega)))
  · repeat (first | (with_reducible exact GW.out) | (with_reducible refine Gr.drew ?_) | (with_reducible refine Gr.drewN ?_ _) | ((with_reducible refine Gr.setCell ?_ ?_ _); rotate_left; focus (simp <;> omega)))

set_option maxRecDepth 100000 in
set_option maxHeartbeats 2000000 in
theorem rdo_swap_same (b off : Nat) (cap : Nat) (B : Bk) (n : Nat) (via had : Int) (w : World) (hv : Words w (.slice (some ⟨b, off, none⟩) B.cells.length cap) B.cells) (hn : n < B.cells.length) (hh : w.cell? ⟨b, off + n, none⟩ = some (.int .u64 had)) (hget : B.cells.getD n 0 = had) (hl : B.cells.length ≤ 400) :
    Calls Try.prog 92 #[rval (.slice (some ⟨b, off, none⟩) B.cells.length cap) B.count B.last, .int .i64 3, .int .i64 n, .int .u64 via, .int .u64 had, .int .u64 had] w (RDone w (.slice (some ⟨b, off, none⟩) B.cells.length cap) (B.done 3 n via had had true)) := by
  have HV := hid hv
  have HG := hid hget
  have hlb : b < w.heap.size := lt_of_cell hh
  have hn' : (n : Int) < B.cells.length := by omega
  have hn0 : 0 ≤ (n : Int) := by omega
  have hb1 : b < w.heap.size + 1 := by omega
  have hb2 : b < w.heap.size + 2 := by omega
  have hb3 : b < w.heap.size + 3 := by omega
  have hb4 : b < w.heap.size + 4 := by omega
  have hb5 : b < w.heap.size + 5 := by omega
  unfold rval
  clear hv hget
  go_enter Try.func92, Try.ntmps92
  go_wp2_with fail
  go_region
  go_wp2
  refine bodyPost_ret (v := .tuple #[rval (.slice (some ⟨b, off, none⟩) B.cells.length cap) (B.done 3 n via had had true).count (B.done 3 n via had had true).last, (B.done 3 n via had had true).last.val]) (by simp [results, Try.results92, go_sem, rval, Acc.val, Bk.done]) rfl ⟨_, rfl, ?_, ?_, .inl rfl⟩
  · show Words _ _ (B.cells.set n had)
    rw [set_same hn (HG.out)]
    refine HV.out.gr ?_
    repeat (first | (with_reducible exact Gr.refl _) | (with_reducible refine Gr.drew ?_) | (with_reducible refine Gr.drewN ?_ _) | (with_reducible refine Gr.alloc ?_ _) | ((with_reducible refine Gr.setCell ?_ ?_ _); rotate_left; focus (simp <;> omega)))
  · repeat (first | (with_reducible exact Gr.refl _) | (with_reducible refine Gr.drew ?_) | (with_reducible refine Gr.drewN ?_ _) | (with_reducible refine Gr.alloc ?_ _) | ((with_reducible refine Gr.setCell ?_ ?_ _); rotate_left; focus (simp <;> omega)))

set_option maxRecDepth 100000 in
set_option maxHeartbeats 2000000 in
theorem rdo_swap_miss (b off : Nat) (cap : Nat) (B : Bk) (n : Nat) (via old v had : Int) (w : World) (hv : Words w (.slice (some ⟨b, off, none⟩) B.cells.length cap) B.cells) (hn : n < B.cells.length) (hh : w.cell? ⟨b, off + n, none⟩ = some (.int .u64 had)) (hget : B.cells.getD n 0 = had) (hl : B.cells.length ≤ 400) (f1 : (had == old) = false) :
    Calls Try.prog 92 #[rval (.slice (some ⟨b, off, none⟩) B.cells.length cap) B.count B.last, .int .i64 3, .int .i64 n, .int .u64 via, .int .u64 old, .int .u64 v] w (RDone w (.slice (some ⟨b, off, none⟩) B.cells.length cap) (B.done 3 n via had had false)) := by
  have HV := hid hv
  have HG := hid hget
  have hlb : b < w.heap.size := lt_of_cell hh
  have hn' : (n : Int) < B.cells.length := by omega
  have hn0 : 0 ≤ (n : Int) := by omega
  have hb1 : b < w.heap.size + 1 := by omega
  have hb2 : b < w.heap.size + 2 := by omega
  have hb3 : b < w.heap.size + 3 := by omega
  have hb4 : b < w.heap.size + 4 := by omega
  have hb5 : b < w.heap.size + 5 := by omega
  unfold rval
  clear hv hget
  go_enter Try.func92, Try.ntmps92
  go_wp2_with fail
  go_region
  go_wp2
  refine bodyPost_ret (v := .tuple #[rval (.slice (some ⟨b, off, none⟩) B.cells.length cap) (B.done 3 n via had had false).count (B.done 3 n via had had false).last, (B.done 3 n via had had false).last.val]) (by simp [results, Try.results92, go_sem, rval, Acc.val, Bk.done]) rfl ⟨_, rfl, ?_, ?_, .inl rfl⟩
  · show Words _ _ (B.cells.set n had)
    rw [set_same hn (HG.out)]
    refine HV.out.gr ?_
    repeat (first | (with_reducible exact Gr.refl _) | (with_reducible refine Gr.drew ?_) | (with_reducible refine Gr.drewN ?_ _) | (with_reducible refine Gr.alloc ?_ _) | ((with_reducible refine Gr.setCell ?_ ?_ _); rotate_left; focus (simp <;> omega)))
  · repeat (first | (with_reducible exact Gr.refl _) | (with_reducible refine Gr.drew ?_) | (with_reducible refine Gr.drewN ?_ _) | (with_reducible refine Gr.alloc ?_ _) | ((with_reducible refine Gr.setCell ?_ ?_ _); rotate_left; focus (simp <;> omega)))



/-- Where a slice's word stands. -/
theorem Words.open_at {w : World} {s : Value} {l : List Int} (h : Words w s l) {n : Nat} (hn : n < l.length) :
    ∃ b off cap : Nat, s = .slice (some ⟨b, off, none⟩) l.length cap ∧ Words w (.slice (some ⟨b, off, none⟩) l.length cap) l ∧ w.cell? ⟨b, off + n, none⟩ = some (.int .u64 (l.getD n 0)) := by
  obtain ⟨a, cap, rfl⟩ := h.addr (by rintro rfl; simp at hn)
  obtain ⟨b, off, rfl, _, hc⟩ := h.at hn
  exact ⟨b, off, cap, rfl, h, hc⟩

theorem rdo_out (s : Value) (B : Bk) (kind cell via old v : Int) (w : World) (hv : Words w s B.cells) (h : B.has cell = false) :
    Calls Try.prog 92 #[rval s B.count B.last, .int .i64 kind, .int .i64 cell, .int .u64 via, .int .u64 old, .int .u64 v] w (RDone w s (B.none kind cell via)) := by
  have h1 := of_decide_eq_false h
  obtain ⟨a, cap, rfl⟩ := hv.slice
  by_cases h0 : cell < 0
  · exact rdo_low a cap B kind cell via old v w hv h0
  · exact rdo_high a cap B kind cell via old v w hv (by omega) (by omega)

theorem rdo_load_any (s : Value) (B : Bk) (cell via : Int) (w : World) (hv : Words w s B.cells) (hl : B.cells.length ≤ 400) :
    Calls Try.prog 92 #[rval s B.count B.last, .int .i64 1, .int .i64 cell, .int .u64 via, .int .u64 0, .int .u64 0] w (RDone w s (B.load cell via)) := by
  by_cases h : B.has cell = true
  · obtain ⟨n, rfl, hn⟩ := Bk.has_nat h
    have e0 : B.load n via = B.done 1 n via (B.get n) (B.get n) true := if_pos h
    obtain ⟨b, off, cap, rfl, hv', hc⟩ := hv.open_at hn
    rw [e0]
    exact rdo_load b off cap B n via 0 0 (B.get n) w hv' hn hc rfl hl
  · have e0 : B.load cell via = B.none 1 cell via := if_neg h
    rw [e0]
    exact rdo_out s B 1 cell via 0 0 w hv (by simpa using h)

theorem rdo_store_any (s : Value) (B : Bk) (cell via v : Int) (w : World) (hv : Words w s B.cells) (hl : B.cells.length ≤ 400) :
    Calls Try.prog 92 #[rval s B.count B.last, .int .i64 2, .int .i64 cell, .int .u64 via, .int .u64 0, .int .u64 v] w (RDone w s (B.store cell via v)) := by
  by_cases h : B.has cell = true
  · obtain ⟨n, rfl, hn⟩ := Bk.has_nat h
    have e0 : B.store n via v = B.done 2 n via (B.get n) v true := if_pos h
    obtain ⟨b, off, cap, rfl, hv', hc⟩ := hv.open_at hn
    rw [e0]
    by_cases hvh : v = B.get n
    · subst hvh
      exact rdo_store_same b off cap B n via 0 (B.get n) w hv' hn hc rfl hl
    · exact rdo_store b off cap B n via 0 v (B.get n) w hv' hn hc rfl hl (by simpa using hvh)
  · have e0 : B.store cell via v = B.none 2 cell via := if_neg h
    rw [e0]
    exact rdo_out s B 2 cell via 0 v w hv (by simpa using h)

theorem rdo_swap_any (s : Value) (B : Bk) (cell via old v : Int) (w : World) (hv : Words w s B.cells) (hl : B.cells.length ≤ 400) :
    Calls Try.prog 92 #[rval s B.count B.last, .int .i64 3, .int .i64 cell, .int .u64 via, .int .u64 old, .int .u64 v] w (RDone w s (B.swap cell via old v)) := by
  by_cases h : B.has cell = true
  · obtain ⟨n, rfl, hn⟩ := Bk.has_nat h
    obtain ⟨b, off, cap, rfl, hv', hc⟩ := hv.open_at hn
    by_cases ho : B.get n = old
    · have e0 : B.swap n via old v = B.done 3 n via (B.get n) v true := by
        rw [Bk.swap, if_pos h, swapTo, if_pos ho, swapIs, decide_eq_true ho]; rfl
      rw [e0]
      subst ho
      by_cases hvh : v = B.get n
      · subst hvh
        exact rdo_swap_same b off cap B n via (B.get n) w hv' hn hc rfl hl
      · exact rdo_swap b off cap B n via v (B.get n) w hv' hn hc rfl hl (by simpa using hvh)
    · have e0 : B.swap n via old v = B.done 3 n via (B.get n) (B.get n) false := by
        rw [Bk.swap, if_pos h, swapTo, if_neg ho, swapIs, decide_eq_false ho]; rfl
      rw [e0]
      exact rdo_swap_miss b off cap B n via old v (B.get n) w hv' hn hc rfl hl (by simpa using ho)
  · have e0 : B.swap cell via old v = B.none 3 cell via := if_neg h
    rw [e0]
    exact rdo_out s B 3 cell via old v w hv (by simpa using h)

end Go.Proofs.YthbkncklliiooaaH

namespace Go.Proofs.YthbkncklliiooaaH
set_option linter.unusedVariables false
set_option linter.unusedSimpArgs false
open Go.RowKit

/-- What a reference's access tells, and leaves. -/
def RTold (w : World) (s : Value) (B : Bk) (x : Value) (e : Ending) (w' : World) : Prop := ∃ s', e = .returned (.tuple #[rval s' B.count B.last, x]) ∧ Words w' s' B.cells ∧ Gr w w' ∧ Fresh w s s'
/-- What a reference's store leaves. -/
def RStored (w : World) (s : Value) (B : Bk) (e : Ending) (w' : World) : Prop := ∃ s', e = .returned (rval s' B.count B.last) ∧ Words w' s' B.cells ∧ Gr w w' ∧ Fresh w s s'

theorem Words.keep {F : Nat → Prop} {w w' : World} {v : Value} {l : List Int} (h : Words w v l) (g : Chg F w w') (hf : ∀ a n c, v = .slice (some a) n c → a.block < w.heap.size → ¬ F a.block) : Words w' v l := by
  rcases h with h | ⟨a, cap, e, hc, h⟩
  · exact .inl h
  · refine .inr ⟨a, cap, e, hc, fun i hi => ?_⟩
    have h0 := lt_of_cell (h 0 (by omega))
    exact g.cell (h i hi) (by have := hf a _ _ e (by simpa [Addr.add] using h0); simpa [Addr.add, apply_ite] using this)

/-- A slice that is fresh behind a call lies in no block that was made ahead of it. -/
theorem Fresh.apart {w0 w w1 : World} {s s' : Value} {l : List Int} (hf : Fresh w s s') (hv : Words w0 s l) (x : Nat) (hx : w0.heap.size ≤ x) (hxw : x < w.heap.size) (hl : l ≠ []) : ∀ a n c, s' = .slice (some a) n c → a.block ≠ x := by
  intro a n c e
  rcases hf with rfl | hf
  · rcases hv with ⟨e', _⟩ | ⟨a', cap, e', _, h⟩
    · rw [e] at e'; simp at e'
    · rw [e] at e'
      simp only [Value.slice.injEq, Option.some.injEq] at e'
      obtain ⟨rfl, _, _⟩ := e'
      have h0 := lt_of_cell (h 0 (List.length_pos_iff.2 hl))
      have h1 : a.block < w0.heap.size := by simpa [Addr.add] using h0
      omega
  · have := hf a n c e
    omega

theorem words_nil {w : World} {v : Value} {l : List Int} (h : Words w v l) (hl : l = []) (w' : World) : Words w' v l := by
  rcases h with h | ⟨a, cap, e, hc, h⟩
  · exact .inl h
  · exact .inr ⟨a, cap, e, hc, fun i hi => by rw [hl] at hi; simp at hi⟩

theorem res85 (t : Array Value) (x : Nat) (W : World) (s : Value) (k : Int) (a : Acc) (hs : ∃ p n c, s = .slice p n c) (hx : t.getD 6 undef = .pointer (some ⟨x, 0, none⟩)) (v0 : Value) (hv0 : t.getD 7 undef = v0)
    (bx : Blk W x #[s, .int .i64 k, .int .i64 a.kind, .int .i64 a.cell, .int .u64 a.via, .int .u64 a.old, .int .u64 a.new, .bool a.done] 48) :
    (results Try.f85 t).run Try.prog W = .ok (.tuple #[rval s k a, v0]) W := by
  obtain ⟨p, n, c, rfl⟩ := hs
  have x0 : W.cell? ⟨x, 0, none⟩ = some (.slice p n c) := bx.cell rfl
  have x1 : W.cell? ⟨x, 1, none⟩ = some (.int .i64 k) := bx.cell rfl
  have x2 : W.cell? ⟨x, 2, none⟩ = some (.int .i64 a.kind) := bx.cell rfl
  have x3 : W.cell? ⟨x, 3, none⟩ = some (.int .i64 a.cell) := bx.cell rfl
  have x4 : W.cell? ⟨x, 4, none⟩ = some (.int .u64 a.via) := bx.cell rfl
  have x5 : W.cell? ⟨x, 5, none⟩ = some (.int .u64 a.old) := bx.cell rfl
  have x6 : W.cell? ⟨x, 6, none⟩ = some (.int .u64 a.new) := bx.cell rfl
  have x7 : W.cell? ⟨x, 7, none⟩ = some (.bool a.done) := bx.cell rfl
  simp only [Array.getD_eq_getD_getElem?] at hx hv0
  simp [results, Try.results85, go_sem, rval, Acc.val, hx, hv0, x0, x1, x2, x3, x4, x5, x6, x7]

set_option maxHeartbeats 1000000 in
theorem rload_any (s : Value) (B : Bk) (cell via : Int) (w : World) (hv : Words w s B.cells) (hl : B.cells.length ≤ 400) :
    Calls Try.prog 85 #[rval s B.count B.last, .int .i64 cell, .int .u64 via] w (RTold w s (B.load cell via) (.int .u64 (B.load cell via).last.old)) := by
  obtain ⟨a, cap, rfl⟩ := hv.slice
  have HV := hid hv
  have hdo := fun w hv => rdo_load_any (.slice a B.cells.length cap) B cell via w hv hl
  have hlen : (B.load cell via).cells.length = B.cells.length := by unfold Bk.load; split <;> simp [Bk.done, Bk.none]
  generalize B.load cell via = B1 at *
  have HL := hid hlen
  unfold rval at hdo
  have HD := hid hdo
  unfold rval
  clear hv hdo hlen
  go_enter Try.func85, Try.ntmps85
  go_wp2_with fail
  refine (HD.out _ (HV.out.gr (((Gr.refl w).alloc _).alloc _))).mono ?_
  rintro e w1 ⟨s1, rfl, hw1, g1, hfr⟩
  obtain ⟨a1, cap1, rfl⟩ := hw1.slice
  have X := Blk.gr (Blk.new' (n := w.heap.size + 1) (by simp)) g1
  have x0 : w1.cell? ⟨w.heap.size + 1, 0, none⟩ = some (.slice none 0 0) := X.cell rfl
  have x1 : w1.cell? ⟨w.heap.size + 1, 1, none⟩ = some (.int .i64 0) := X.cell rfl
  have x2 : w1.cell? ⟨w.heap.size + 1, 2, none⟩ = some (.int .i64 0) := X.cell rfl
  have x3 : w1.cell? ⟨w.heap.size + 1, 3, none⟩ = some (.int .i64 0) := X.cell rfl
  have x4 : w1.cell? ⟨w.heap.size + 1, 4, none⟩ = some (.int .u64 0) := X.cell rfl
  have x5 : w1.cell? ⟨w.heap.size + 1, 5, none⟩ = some (.int .u64 0) := X.cell rfl
  have x6 : w1.cell? ⟨w.heap.size + 1, 6, none⟩ = some (.int .u64 0) := X.cell rfl
  have x7 : w1.cell? ⟨w.heap.size + 1, 7, none⟩ = some (.bool false) := X.cell rfl
  have xf := X.free
  have xl := X.lt
  have xl0 : w.heap.size < w1.heap.size := by omega
  have xl1 : w.heap.size + 1 < w1.heap.size + 1 := by omega
  have HW := hid hw1
  have HX := hid X
  have HG := hid ((((Gr.refl w).alloc _).alloc _).trans g1)
  have HF := hid hfr
  clear hw1 X g1 hfr
  unfold rval Acc.val
  go_wp2_with fail
  go_region
  go_wp2
  refine bodyPost_ret (v := .tuple #[rval (.slice a1 B1.cells.length cap1) B1.count B1.last, .int .u64 B1.last.old]) (res85 _ (w.heap.size + 1) _ _ _ _ ⟨_, _, _, rfl⟩ rfl _ rfl ?_) rfl ?_
  · refine Blk.of_eq (c := (((((((((#[.slice none 0 0, .int .i64 0, .int .i64 0, .int .i64 0, .int .u64 0, .int .u64 0, .int .u64 0, .bool false] : Array Value).setIfInBounds 0 (.slice a1 B1.cells.length cap1)).setIfInBounds 1 (.int .i64 B1.count)).setIfInBounds 2 (.int .i64 B1.last.kind)).setIfInBounds 3 (.int .i64 B1.last.cell)).setIfInBounds 4 (.int .u64 B1.last.via)).setIfInBounds 5 (.int .u64 B1.last.old)).setIfInBounds 6 (.int .u64 B1.last.new)).setIfInBounds 7 (.bool B1.last.done))) ?hx ?ex
    case hx => repeat (first | (with_reducible exact HX.out) | (with_reducible refine Blk.set ?_ _ _) | (with_reducible refine Blk.drew ?_) | (with_reducible refine Blk.alloc ?_ _) | ((with_reducible refine Blk.set_other ?_ ?_ _); rotate_left; focus (simp <;> omega)))
    case ex => rfl
  · have hc : ∀ W, Chg (· = w.heap.size + 1) w1 W → RTold w (.slice a B.cells.length cap) B1 (.int .u64 B1.last.old) (.returned (.tuple #[rval (.slice a1 B1.cells.length cap1) B1.count B1.last, .int .u64 B1.last.old])) W := by
      intro W hc
      refine ⟨_, rfl, ?_, HG.out.step hc (by rintro i rfl; omega), ?_⟩
      · by_cases hnil : B1.cells = []
        · exact words_nil HW.out hnil _
        · refine HW.out.keep hc fun b n c e _ => HF.out.apart (w1 := w1) HV.out (w.heap.size + 1) (by omega) (by simp) ?_ b n c e
          intro e0
          exact hnil (List.eq_nil_of_length_eq_zero (by rw [HL.out, e0]; rfl))
      · rcases HF.out with h | h
        · exact .inl h
        · exact .inr fun b n c e => by have := h b n c e; simp at this; omega
    apply hc
    repeat (first | (with_reducible exact Chg.refl _ _) | (with_reducible refine Chg.drew ?_) | (with_reducible refine Chg.alloc ?_ _) | ((with_reducible refine Chg.setCell ?_ ?_ _); rotate_left; focus (first | exact .inl rfl | (refine .inr ?_; simp <;> omega))))

theorem res84 (t : Array Value) (x : Nat) (W : World) (s : Value) (k : Int) (a : Acc) (hs : ∃ p n c, s = .slice p n c) (hx : t.getD 8 undef = .pointer (some ⟨x, 0, none⟩))
    (bx : Blk W x #[s, .int .i64 k, .int .i64 a.kind, .int .i64 a.cell, .int .u64 a.via, .int .u64 a.old, .int .u64 a.new, .bool a.done] 48) :
    (results Try.f84 t).run Try.prog W = .ok (rval s k a) W := by
  obtain ⟨p, n, c, rfl⟩ := hs
  have x0 : W.cell? ⟨x, 0, none⟩ = some (.slice p n c) := bx.cell rfl
  have x1 : W.cell? ⟨x, 1, none⟩ = some (.int .i64 k) := bx.cell rfl
  have x2 : W.cell? ⟨x, 2, none⟩ = some (.int .i64 a.kind) := bx.cell rfl
  have x3 : W.cell? ⟨x, 3, none⟩ = some (.int .i64 a.cell) := bx.cell rfl
  have x4 : W.cell? ⟨x, 4, none⟩ = some (.int .u64 a.via) := bx.cell rfl
  have x5 : W.cell? ⟨x, 5, none⟩ = some (.int .u64 a.old) := bx.cell rfl
  have x6 : W.cell? ⟨x, 6, none⟩ = some (.int .u64 a.new) := bx.cell rfl
  have x7 : W.cell? ⟨x, 7, none⟩ = some (.bool a.done) := bx.cell rfl
  simp only [Array.getD_eq_getD_getElem?] at hx 
  simp [results, Try.results84, go_sem, rval, Acc.val, hx, x0, x1, x2, x3, x4, x5, x6, x7]

set_option maxHeartbeats 1000000 in
theorem rstore_any (s : Value) (B : Bk) (cell via v : Int) (w : World) (hv : Words w s B.cells) (hl : B.cells.length ≤ 400) :
    Calls Try.prog 84 #[rval s B.count B.last, .int .i64 cell, .int .u64 via, .int .u64 v] w (RStored w s (B.store cell via v)) := by
  obtain ⟨a, cap, rfl⟩ := hv.slice
  have HV := hid hv
  have hdo := fun w hv => rdo_store_any (.slice a B.cells.length cap) B cell via v w hv hl
  have hlen : (B.store cell via v).cells.length = B.cells.length := by unfold Bk.store; split <;> simp [Bk.done, Bk.none]
  generalize B.store cell via v = B1 at *
  have HL := hid hlen
  unfold rval at hdo
  have HD := hid hdo
  unfold rval
  clear hv hdo hlen
  go_enter Try.func84, Try.ntmps84
  go_wp2_with fail
  refine (HD.out _ (HV.out.gr (((Gr.refl w).alloc _).alloc _))).mono ?_
  rintro e w1 ⟨s1, rfl, hw1, g1, hfr⟩
  obtain ⟨a1, cap1, rfl⟩ := hw1.slice
  have X := Blk.gr (Blk.new' (n := w.heap.size + 1) (by simp)) g1
  have x0 : w1.cell? ⟨w.heap.size + 1, 0, none⟩ = some (.slice none 0 0) := X.cell rfl
  have x1 : w1.cell? ⟨w.heap.size + 1, 1, none⟩ = some (.int .i64 0) := X.cell rfl
  have x2 : w1.cell? ⟨w.heap.size + 1, 2, none⟩ = some (.int .i64 0) := X.cell rfl
  have x3 : w1.cell? ⟨w.heap.size + 1, 3, none⟩ = some (.int .i64 0) := X.cell rfl
  have x4 : w1.cell? ⟨w.heap.size + 1, 4, none⟩ = some (.int .u64 0) := X.cell rfl
  have x5 : w1.cell? ⟨w.heap.size + 1, 5, none⟩ = some (.int .u64 0) := X.cell rfl
  have x6 : w1.cell? ⟨w.heap.size + 1, 6, none⟩ = some (.int .u64 0) := X.cell rfl
  have x7 : w1.cell? ⟨w.heap.size + 1, 7, none⟩ = some (.bool false) := X.cell rfl
  have xf := X.free
  have xl := X.lt
  have xl0 : w.heap.size < w1.heap.size := by omega
  have xl1 : w.heap.size + 1 < w1.heap.size + 1 := by omega
  have HW := hid hw1
  have HX := hid X
  have HG := hid ((((Gr.refl w).alloc _).alloc _).trans g1)
  have HF := hid hfr
  clear hw1 X g1 hfr
  unfold rval Acc.val
  go_wp2_with fail
  refine bodyPost_ret (v := rval (.slice a1 B1.cells.length cap1) B1.count B1.last) (res84 _ (w.heap.size + 1) _ _ _ _ ⟨_, _, _, rfl⟩ rfl ?_) rfl ?_
  · refine Blk.of_eq (c := (((((((((#[.slice none 0 0, .int .i64 0, .int .i64 0, .int .i64 0, .int .u64 0, .int .u64 0, .int .u64 0, .bool false] : Array Value).setIfInBounds 0 (.slice a1 B1.cells.length cap1)).setIfInBounds 1 (.int .i64 B1.count)).setIfInBounds 2 (.int .i64 B1.last.kind)).setIfInBounds 3 (.int .i64 B1.last.cell)).setIfInBounds 4 (.int .u64 B1.last.via)).setIfInBounds 5 (.int .u64 B1.last.old)).setIfInBounds 6 (.int .u64 B1.last.new)).setIfInBounds 7 (.bool B1.last.done))) ?hx ?ex
    case hx => repeat (first | (with_reducible exact HX.out) | (with_reducible refine Blk.set ?_ _ _) | (with_reducible refine Blk.drew ?_) | (with_reducible refine Blk.alloc ?_ _) | ((with_reducible refine Blk.set_other ?_ ?_ _); rotate_left; focus (simp <;> omega)))
    case ex => rfl
  · have hc : ∀ W, Chg (· = w.heap.size + 1) w1 W → RStored w (.slice a B.cells.length cap) B1 (.returned (rval (.slice a1 B1.cells.length cap1) B1.count B1.last)) W := by
      intro W hc
      refine ⟨_, rfl, ?_, HG.out.step hc (by rintro i rfl; omega), ?_⟩
      · by_cases hnil : B1.cells = []
        · exact words_nil HW.out hnil _
        · refine HW.out.keep hc fun b n c e _ => HF.out.apart (w1 := w1) HV.out (w.heap.size + 1) (by omega) (by simp) ?_ b n c e
          intro e0
          exact hnil (List.eq_nil_of_length_eq_zero (by rw [HL.out, e0]; rfl))
      · rcases HF.out with h | h
        · exact .inl h
        · exact .inr fun b n c e => by have := h b n c e; simp at this; omega
    apply hc
    repeat (first | (with_reducible exact Chg.refl _ _) | (with_reducible refine Chg.drew ?_) | (with_reducible refine Chg.alloc ?_ _) | ((with_reducible refine Chg.setCell ?_ ?_ _); rotate_left; focus (first | exact .inl rfl | (refine .inr ?_; simp <;> omega))))

theorem res88 (t : Array Value) (x : Nat) (W : World) (s : Value) (k : Int) (a : Acc) (hs : ∃ p n c, s = .slice p n c) (hx : t.getD 10 undef = .pointer (some ⟨x, 0, none⟩)) (v0 : Value) (hv0 : t.getD 11 undef = v0)
    (bx : Blk W x #[s, .int .i64 k, .int .i64 a.kind, .int .i64 a.cell, .int .u64 a.via, .int .u64 a.old, .int .u64 a.new, .bool a.done] 48) :
    (results Try.f88 t).run Try.prog W = .ok (.tuple #[rval s k a, v0]) W := by
  obtain ⟨p, n, c, rfl⟩ := hs
  have x0 : W.cell? ⟨x, 0, none⟩ = some (.slice p n c) := bx.cell rfl
  have x1 : W.cell? ⟨x, 1, none⟩ = some (.int .i64 k) := bx.cell rfl
  have x2 : W.cell? ⟨x, 2, none⟩ = some (.int .i64 a.kind) := bx.cell rfl
  have x3 : W.cell? ⟨x, 3, none⟩ = some (.int .i64 a.cell) := bx.cell rfl
  have x4 : W.cell? ⟨x, 4, none⟩ = some (.int .u64 a.via) := bx.cell rfl
  have x5 : W.cell? ⟨x, 5, none⟩ = some (.int .u64 a.old) := bx.cell rfl
  have x6 : W.cell? ⟨x, 6, none⟩ = some (.int .u64 a.new) := bx.cell rfl
  have x7 : W.cell? ⟨x, 7, none⟩ = some (.bool a.done) := bx.cell rfl
  simp only [Array.getD_eq_getD_getElem?] at hx hv0
  simp [results, Try.results88, go_sem, rval, Acc.val, hx, hv0, x0, x1, x2, x3, x4, x5, x6, x7]

set_option maxHeartbeats 1000000 in
theorem rswap_any (s : Value) (B : Bk) (cell via old v : Int) (w : World) (hv : Words w s B.cells) (hl : B.cells.length ≤ 400) :
    Calls Try.prog 88 #[rval s B.count B.last, .int .i64 cell, .int .u64 via, .int .u64 old, .int .u64 v] w (RTold w s (B.swap cell via old v) (.bool (B.swap cell via old v).last.done)) := by
  obtain ⟨a, cap, rfl⟩ := hv.slice
  have HV := hid hv
  have hdo := fun w hv => rdo_swap_any (.slice a B.cells.length cap) B cell via old v w hv hl
  have hlen : (B.swap cell via old v).cells.length = B.cells.length := by unfold Bk.swap; split <;> simp [Bk.done, Bk.none]
  generalize B.swap cell via old v = B1 at *
  have HL := hid hlen
  unfold rval at hdo
  have HD := hid hdo
  unfold rval
  clear hv hdo hlen
  go_enter Try.func88, Try.ntmps88
  go_wp2_with fail
  refine (HD.out _ (HV.out.gr (((Gr.refl w).alloc _).alloc _))).mono ?_
  rintro e w1 ⟨s1, rfl, hw1, g1, hfr⟩
  obtain ⟨a1, cap1, rfl⟩ := hw1.slice
  have X := Blk.gr (Blk.new' (n := w.heap.size + 1) (by simp)) g1
  have x0 : w1.cell? ⟨w.heap.size + 1, 0, none⟩ = some (.slice none 0 0) := X.cell rfl
  have x1 : w1.cell? ⟨w.heap.size + 1, 1, none⟩ = some (.int .i64 0) := X.cell rfl
  have x2 : w1.cell? ⟨w.heap.size + 1, 2, none⟩ = some (.int .i64 0) := X.cell rfl
  have x3 : w1.cell? ⟨w.heap.size + 1, 3, none⟩ = some (.int .i64 0) := X.cell rfl
  have x4 : w1.cell? ⟨w.heap.size + 1, 4, none⟩ = some (.int .u64 0) := X.cell rfl
  have x5 : w1.cell? ⟨w.heap.size + 1, 5, none⟩ = some (.int .u64 0) := X.cell rfl
  have x6 : w1.cell? ⟨w.heap.size + 1, 6, none⟩ = some (.int .u64 0) := X.cell rfl
  have x7 : w1.cell? ⟨w.heap.size + 1, 7, none⟩ = some (.bool false) := X.cell rfl
  have xf := X.free
  have xl := X.lt
  have xl0 : w.heap.size < w1.heap.size := by omega
  have xl1 : w.heap.size + 1 < w1.heap.size + 1 := by omega
  have HW := hid hw1
  have HX := hid X
  have HG := hid ((((Gr.refl w).alloc _).alloc _).trans g1)
  have HF := hid hfr
  clear hw1 X g1 hfr
  unfold rval Acc.val
  go_wp2_with fail
  go_region
  go_wp2
  refine bodyPost_ret (v := .tuple #[rval (.slice a1 B1.cells.length cap1) B1.count B1.last, .bool B1.last.done]) (res88 _ (w.heap.size + 1) _ _ _ _ ⟨_, _, _, rfl⟩ rfl _ rfl ?_) rfl ?_
  · refine Blk.of_eq (c := (((((((((#[.slice none 0 0, .int .i64 0, .int .i64 0, .int .i64 0, .int .u64 0, .int .u64 0, .int .u64 0, .bool false] : Array Value).setIfInBounds 0 (.slice a1 B1.cells.length cap1)).setIfInBounds 1 (.int .i64 B1.count)).setIfInBounds 2 (.int .i64 B1.last.kind)).setIfInBounds 3 (.int .i64 B1.last.cell)).setIfInBounds 4 (.int .u64 B1.last.via)).setIfInBounds 5 (.int .u64 B1.last.old)).setIfInBounds 6 (.int .u64 B1.last.new)).setIfInBounds 7 (.bool B1.last.done))) ?hx ?ex
    case hx => repeat (first | (with_reducible exact HX.out) | (with_reducible refine Blk.set ?_ _ _) | (with_reducible refine Blk.drew ?_) | (with_reducible refine Blk.alloc ?_ _) | ((with_reducible refine Blk.set_other ?_ ?_ _); rotate_left; focus (simp <;> omega)))
    case ex => rfl
  · have hc : ∀ W, Chg (· = w.heap.size + 1) w1 W → RTold w (.slice a B.cells.length cap) B1 (.bool B1.last.done) (.returned (.tuple #[rval (.slice a1 B1.cells.length cap1) B1.count B1.last, .bool B1.last.done])) W := by
      intro W hc
      refine ⟨_, rfl, ?_, HG.out.step hc (by rintro i rfl; omega), ?_⟩
      · by_cases hnil : B1.cells = []
        · exact words_nil HW.out hnil _
        · refine HW.out.keep hc fun b n c e _ => HF.out.apart (w1 := w1) HV.out (w.heap.size + 1) (by omega) (by simp) ?_ b n c e
          intro e0
          exact hnil (List.eq_nil_of_length_eq_zero (by rw [HL.out, e0]; rfl))
      · rcases HF.out with h | h
        · exact .inl h
        · exact .inr fun b n c e => by have := h b n c e; simp at this; omega
    apply hc
    repeat (first | (with_reducible exact Chg.refl _ _) | (with_reducible refine Chg.drew ?_) | (with_reducible refine Chg.alloc ?_ _) | ((with_reducible refine Chg.setCell ?_ ?_ _); rotate_left; focus (first | exact .inl rfl | (refine .inr ?_; simp <;> omega))))

end Go.Proofs.YthbkncklliiooaaH
