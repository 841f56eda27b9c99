/-
  What helps do to words: plain laws, no program in sight.
-/
import Derived.Test.YthbkncklliiooaaHo
namespace Go.Proofs.YthbkncklliiooaaH
set_option linter.unusedVariables false
set_option linter.unusedSimpArgs false
set_option linter.unusedSectionVars false
open Go.RowKit

theorem has_of {B : Bk} {x : Int} (h0 : 0 ≤ x) (h1 : x < B.cells.length) : B.has x = true := decide_eq_true ⟨h0, h1⟩

theorem load_cells (B : Bk) (x y : Int) : (B.load x y).cells = B.cells := by
  unfold Bk.load
  by_cases k : B.has x = true
  · rw [if_pos k]
    show B.cells.set x.toNat (B.get x) = B.cells
    have h := of_decide_eq_true k
    unfold Bk.get
    rw [List.getD_eq_getElem?_getD, List.getElem?_eq_getElem (by omega), Option.getD_some, List.set_getElem_self]
  · rw [if_neg k]; rfl
theorem load_old (B : Bk) {x : Int} (y : Int) (h0 : 0 ≤ x) (h1 : x < B.cells.length) : (B.load x y).last.old = B.get x := by
  unfold Bk.load
  rw [if_pos (has_of h0 h1)]; rfl
theorem load_count (B : Bk) (x y : Int) : (B.load x y).count = wrap64 (B.count + 1) := by
  unfold Bk.load
  split <;> rfl
theorem swap_count (B : Bk) (x y o v : Int) : (B.swap x y o v).count = wrap64 (B.count + 1) := by
  unfold Bk.swap
  split <;> rfl
theorem swap_done (B : Bk) {x : Int} (y o v : Int) (h0 : 0 ≤ x) (h1 : x < B.cells.length) : (B.swap x y o v).last.done = decide (B.get x = o) := by
  unfold Bk.swap
  rw [if_pos (has_of h0 h1)]; rfl
theorem swap_yes (B : Bk) {x : Int} (y v : Int) (h0 : 0 ≤ x) (h1 : x < B.cells.length) : (B.swap x y (B.get x) v).cells = B.cells.set x.toNat v := by
  unfold Bk.swap
  rw [if_pos (has_of h0 h1)]
  show B.cells.set x.toNat (swapTo (B.get x) v (B.get x)) = _
  rw [show swapTo (B.get x) v (B.get x) = v from if_pos rfl]
theorem swap_no (B : Bk) {x : Int} (y o v : Int) (h0 : 0 ≤ x) (h1 : x < B.cells.length) (hne : B.get x ≠ o) : (B.swap x y o v).cells = B.cells := by
  unfold Bk.swap
  rw [if_pos (has_of h0 h1)]
  show B.cells.set x.toNat (swapTo o v (B.get x)) = _
  rw [show swapTo o v (B.get x) = B.get x from if_neg hne]
  unfold Bk.get
  rw [List.getD_eq_getElem?_getD, List.getElem?_eq_getElem (by omega), Option.getD_some, List.set_getElem_self]

theorem getD_set (l : List Int) (n m : Nat) (v : Int) : (l.set n v).getD m 0 = if n = m ∧ n < l.length then v else l.getD m 0 := by
  rw [List.getD_eq_getElem?_getD, List.getD_eq_getElem?_getD, List.getElem?_set]
  by_cases h : n = m
  · subst h
    by_cases h2 : n < l.length
    · simp [h2]
    · simp [h2]
  · simp [h]

theorem hM_hMk {x : Int} (h : 0 ≤ x) : hM (hMk x) = true := by
  unfold hMk
  by_cases k : hM x = true
  · rw [if_pos k]; exact k
  · rw [if_neg k]
    unfold hM at *
    simp only [decide_eq_true_eq] at *
    omega
theorem hMk_of {x : Int} (h : hM x = true) : hMk x = x := if_pos h

/-- The setting: a world, a node, and how many levels it has. -/
structure Ctx (c : Cf) (h : Int) (T : Nat) : Prop where
  ok : c.Ok
  i0 : 0 ≤ hI h
  i1 : hI h ≤ c.cp
  t0 : 0 < T
  t1 : (T : Int) ≤ c.he

/-- A level's cell; that of how many levels there are. -/
def lc (c : Cf) (h : Int) (n : Nat) : Nat := (c.cel (hI h) (6 + n)).toNat
def tc (c : Cf) (h : Int) : Nat := (c.cel (hI h) 4).toNat

section
variable {c : Cf} {h : Int} {T : Nat} (C : Ctx c h T)
include C
theorem Ctx.lv {n : Nat} (hn : n < T) : c.cel (hI h) (6 + n) = (lc c h n : Int) ∧ (lc c h n : Int) < c.cells := by
  obtain ⟨e, h1, h2⟩ := cel_yes c C.ok (a := hI h) (b := 6 + n) ⟨C.i0, C.i1⟩ ⟨by omega, by have := C.t1; unfold Cf.fields; omega⟩
  obtain ⟨b0, b1, b2, b3, b4, b5⟩ := c.bounds C.ok
  unfold lc
  exact ⟨by omega, by omega⟩
theorem Ctx.tl : c.cel (hI h) 4 = (tc c h : Int) ∧ (tc c h : Int) < c.cells := by
  obtain ⟨b0, b1, b2, b3, b4, b5⟩ := c.bounds C.ok
  obtain ⟨e, h1, h2⟩ := cel_yes c C.ok (a := hI h) (b := 4) ⟨C.i0, C.i1⟩ ⟨by omega, by omega⟩
  unfold tc
  exact ⟨by omega, by omega⟩
theorem Ctx.inj {n m : Nat} (hn : n < T) (hm : m < T) (e : lc c h n = lc c h m) : n = m := by
  have h1 := (C.lv hn).1
  have h2 := (C.lv hm).1
  have := (cel_inj c (a := hI h) (b := 6 + n) (a' := hI h) (b' := 6 + m) (by omega) (by omega)).2
  omega
theorem Ctx.ne {n : Nat} (hn : n < T) : lc c h n ≠ tc c h := by
  intro e
  have h1 := (C.lv hn).1
  have h2 := C.tl.1
  have := (cel_inj c (a := hI h) (b := 6 + n) (a' := hI h) (b' := 4) (by omega) (by omega)).2
  omega
end

/-- Has a level the mark? -/
def Mkd (c : Cf) (h : Int) (l : List Int) (n : Nat) : Prop := hM (l.getD (lc c h n) 0) = true

/-- The words as long as the world, all of them words, and the node's levels. -/
structure Row (c : Cf) (h : Int) (T : Nat) (l : List Int) : Prop where
  len : (l.length : Int) = c.cells
  wd : ∀ x ∈ l, U64 x
  top : topLv c (l.getD (tc c h) 0) + 1 = T

/-- What one step may do to the words: nothing, or it marks a level above which all have the mark. -/
def Mk1 (c : Cf) (h : Int) (T : Nat) (l l' : List Int) : Prop :=
  l' = l ∨ ∃ n : Nat, n < T ∧ (∀ j : Nat, n < j → j < T → Mkd c h l j) ∧ l' = l.set (lc c h n) (hMk (l.getD (lc c h n) 0))

structure Hinv (c : Cf) (h : Int) (T : Nat) (H : HS) (l : List Int) : Prop where
  hh : H.h = h
  lv : H.st = .next ∨ H.st = .mark → 0 ≤ H.lv ∧ H.lv < T ∧ ∀ j : Nat, H.lv < j → j < T → Mkd c h l j
  dn : H.st = .done → ∀ j : Nat, j < T → Mkd c h l j

section
variable {c : Cf} {h : Int} {T : Nat} (C : Ctx c h T)
include C

omit C in
theorem getD_u64 {l : List Int} (hw : ∀ x ∈ l, U64 x) (n : Nat) : U64 (l.getD n 0) := by
  rw [List.getD_eq_getElem?_getD]
  cases hk : l[n]? with
  | none => exact ⟨by simp, by simp⟩
  | some x => exact hw x (List.mem_of_getElem? hk)

theorem Mk1.marks {l l' : List Int} (R : Row c h T l) (m : Mk1 c h T l l') {j : Nat} (hj : j < T) (k : Mkd c h l j) : Mkd c h l' j := by
  rcases m with rfl | ⟨n, hn, ha, rfl⟩
  · exact k
  · unfold Mkd at *
    rw [getD_set]
    split
    · exact hM_hMk (getD_u64 R.wd _).1
    · exact k

theorem Mk1.row {l l' : List Int} (R : Row c h T l) (m : Mk1 c h T l l') : Row c h T l' := by
  rcases m with rfl | ⟨n, hn, ha, rfl⟩
  · exact R
  · refine ⟨by simpa using R.len, ?_, ?_⟩
    · intro x hx
      rcases List.mem_or_eq_of_mem_set hx with hx | rfl
      · exact R.wd x hx
      · exact hMk_u64 (getD_u64 R.wd _)
    · rw [getD_set, if_neg (fun k => C.ne hn k.1)]
      exact R.top

theorem Mk1.hinv {l l' : List Int} (R : Row c h T l) (m : Mk1 c h T l l') {H : HS} (k : Hinv c h T H l) : Hinv c h T H l' :=
  ⟨k.hh, fun e => ⟨(k.lv e).1, (k.lv e).2.1, fun j h1 h2 => m.marks C R h2 ((k.lv e).2.2 j h1 h2)⟩, fun e j hj => m.marks C R hj (k.dn e j hj)⟩

/-- Marks stand from above. -/
def Upper (c : Cf) (h : Int) (T : Nat) (l : List Int) : Prop := ∀ n : Nat, n + 1 < T → Mkd c h l n → Mkd c h l (n + 1)
theorem Mk1.upper {l l' : List Int} (R : Row c h T l) (m : Mk1 c h T l l') (k : Upper c h T l) : Upper c h T l' := by
  intro n hn hm
  rcases id m with rfl | ⟨n', hn', ha, rfl⟩
  · exact k n hn hm
  · by_cases e : n' = n
    · subst e
      exact m.marks C R hn (ha _ (by omega) hn)
    · refine m.marks C R hn (k n hn ?_)
      unfold Mkd at *
      rw [getD_set, if_neg (fun q => e (C.inj hn' (by omega) q.1))] at hm
      exact hm

/-- Each word is as it was, or one of the levels', with the mark. -/
def Kept2 (c : Cf) (h : Int) (T : Nat) (l0 l : List Int) : Prop :=
  l.length = l0.length ∧ ∀ k : Nat, l.getD k 0 = l0.getD k 0 ∨ (∃ n : Nat, n < T ∧ k = lc c h n) ∧ l.getD k 0 = hMk (l0.getD k 0)
theorem Mk1.kept {l0 l l' : List Int} (R0 : Row c h T l0) (m : Mk1 c h T l l') (k : Kept2 c h T l0 l) : Kept2 c h T l0 l' := by
  rcases m with rfl | ⟨n, hn, ha, rfl⟩
  · exact k
  · refine ⟨by simpa using k.1, fun j => ?_⟩
    rw [getD_set]
    by_cases e : lc c h n = j ∧ lc c h n < l.length
    · rw [if_pos e]
      obtain ⟨rfl, _⟩ := e
      refine .inr ⟨⟨n, hn, rfl⟩, ?_⟩
      rcases k.2 (lc c h n) with e2 | ⟨_, e2⟩
      · rw [e2]
      · rw [e2, hMk_of (hM_hMk (getD_u64 R0.wd _).1)]
    · rw [if_neg e]
      exact k.2 j

/-- A step, seen from outside. -/
theorem step_mk {H : HS} {B : Bk} (R : Row c h T B.cells) (k : Hinv c h T H B.cells) : Mk1 c h T B.cells (H.step c B).2.cells ∧ Hinv c h T (H.step c B).1 (H.step c B).2.cells := by
  have hlen := R.len
  cases hst : H.st with
  | done => rw [show H.step c B = (H, B) by simp only [HS.step, hst]]; exact ⟨.inl rfl, k⟩
  | tall =>
    rw [show H.step c B = (⟨.next, H.h, H.s, topLv c (B.load (c.cel (hI H.h) 4) (hPl H.h)).last.old⟩, B.load (c.cel (hI H.h) 4) (hPl H.h)) by simp only [HS.step, hst]]
    show Mk1 c h T B.cells (B.load _ _).cells ∧ Hinv c h T _ (B.load _ _).cells
    rw [load_cells, k.hh]
    refine ⟨.inl rfl, rfl, fun _ => ?_, fun e => by cases e⟩
    obtain ⟨e1, e2⟩ := C.tl
    have ht : (B.load (c.cel (hI h) 4) (hPl h)).last.old = B.cells.getD (tc c h) 0 := by
      rw [load_old B (hPl h) (by omega) (by omega), e1]; rfl
    show 0 ≤ topLv c _ ∧ topLv c _ < T ∧ _
    rw [ht]
    have h1 := R.top
    have h2 := C.t0
    refine ⟨by omega, by omega, fun j hj hj2 => ?_⟩
    exfalso
    have hj' : topLv c (B.cells.getD (tc c h) 0) < j := hj
    omega
  | next =>
    obtain ⟨l0, l1, l2⟩ := k.lv (.inl hst)
    obtain ⟨n, hn⟩ := Int.eq_ofNat_of_zero_le l0
    have hnT : n < T := by omega
    obtain ⟨e1, e2⟩ := C.lv hnT
    have eo : (B.load (c.cel (hI h) (6 + H.lv)) (hPl h)).last.old = B.cells.getD (lc c h n) 0 := by
      rw [hn, load_old B (hPl h) (by omega) (by omega), e1]; rfl
    have es : H.step c B = (if hM (B.load (c.cel (hI h) (6 + H.lv)) (hPl h)).last.old = true then HS.down ⟨.next, h, (B.load (c.cel (hI h) (6 + H.lv)) (hPl h)).last.old, H.lv⟩ else ⟨.mark, h, (B.load (c.cel (hI h) (6 + H.lv)) (hPl h)).last.old, H.lv⟩, B.load (c.cel (hI h) (6 + H.lv)) (hPl h)) := by simp only [HS.step, hst, k.hh]
    rw [es]
    show Mk1 c h T B.cells (B.load _ _).cells ∧ Hinv c h T _ (B.load _ _).cells
    rw [load_cells, eo]
    refine ⟨.inl rfl, ?_⟩
    by_cases hm : hM (B.cells.getD (lc c h n) 0) = true
    · rw [if_pos hm]
      have all : ∀ j : Nat, H.lv - 1 < j → j < T → Mkd c h B.cells j := by
        intro j h1 h2
        by_cases e : j = n
        · subst e; exact hm
        · exact l2 j (by omega) h2
      refine ⟨rfl, fun e => ?_, fun e => ?_⟩
      · have hd : ¬ H.lv - 1 < 0 := by
          intro hd
          rcases e with e | e
          · rw [show (HS.down ⟨.next, h, B.cells.getD (lc c h n) 0, H.lv⟩).st = .done from if_pos hd] at e; cases e
          · rw [show (HS.down ⟨.next, h, B.cells.getD (lc c h n) 0, H.lv⟩).st = .done from if_pos hd] at e; cases e
        exact ⟨by show 0 ≤ H.lv - 1; omega, by show H.lv - 1 < T; omega, all⟩
      · have hd : H.lv - 1 < 0 := by
          by_cases hd : H.lv - 1 < 0
          · exact hd
          · rw [show (HS.down ⟨.next, h, B.cells.getD (lc c h n) 0, H.lv⟩).st = .next from if_neg hd] at e; cases e
        intro j hj
        exact all j (by omega) hj
    · rw [if_neg hm]
      exact ⟨rfl, fun _ => ⟨l0, l1, l2⟩, fun e => by cases e⟩
  | mark =>
    obtain ⟨l0, l1, l2⟩ := k.lv (.inr hst)
    obtain ⟨n, hn⟩ := Int.eq_ofNat_of_zero_le l0
    have hnT : n < T := by omega
    obtain ⟨e1, e2⟩ := C.lv hnT
    have hx0 : 0 ≤ c.cel (hI h) (6 + H.lv) := by rw [hn]; omega
    have hx1 : c.cel (hI h) (6 + H.lv) < B.cells.length := by rw [hn]; omega
    have eg : B.get (c.cel (hI h) (6 + H.lv)) = B.cells.getD (lc c h n) 0 := by rw [hn, e1]; rfl
    have et : (c.cel (hI h) (6 + H.lv)).toNat = lc c h n := by rw [hn]; rfl
    have es : H.step c B = (if (B.swap (c.cel (hI h) (6 + H.lv)) (hPl h) H.s (hMk H.s)).last.done = true then HS.down H else ⟨.next, h, H.s, H.lv⟩, B.swap (c.cel (hI h) (6 + H.lv)) (hPl h) H.s (hMk H.s)) := by simp only [HS.step, hst, k.hh]
    rw [es, swap_done B (hPl h) H.s (hMk H.s) hx0 hx1]
    by_cases hs : B.get (c.cel (hI h) (6 + H.lv)) = H.s
    · rw [if_pos (decide_eq_true hs)]
      have hcl : (B.swap (c.cel (hI h) (6 + H.lv)) (hPl h) H.s (hMk H.s)).cells = B.cells.set (lc c h n) (hMk (B.cells.getD (lc c h n) 0)) := by
        rw [← hs, swap_yes B (hPl h) _ hx0 hx1, et, eg]
      have m : Mk1 c h T B.cells (B.swap (c.cel (hI h) (6 + H.lv)) (hPl h) H.s (hMk H.s)).cells := .inr ⟨n, hnT, fun j h1 h2 => l2 j (by omega) h2, hcl⟩
      refine ⟨m, ?_⟩
      show Hinv c h T (HS.down H) (B.swap (c.cel (hI h) (6 + H.lv)) (hPl h) H.s (hMk H.s)).cells
      have all : ∀ j : Nat, H.lv - 1 < j → j < T → Mkd c h (B.swap (c.cel (hI h) (6 + H.lv)) (hPl h) H.s (hMk H.s)).cells j := by
        intro j h1 h2
        by_cases e : j = n
        · subst e
          rw [hcl]
          unfold Mkd
          rw [getD_set, if_pos ⟨rfl, by omega⟩]
          exact hM_hMk (getD_u64 R.wd _).1
        · exact m.marks C R h2 (l2 j (by omega) h2)
      refine ⟨k.hh, fun e => ?_, fun e => ?_⟩
      · have hd : ¬ H.lv - 1 < 0 := by
          intro hd
          rcases e with e | e
          · rw [show (HS.down H).st = .done from if_pos hd] at e; cases e
          · rw [show (HS.down H).st = .done from if_pos hd] at e; cases e
        exact ⟨by show 0 ≤ H.lv - 1; omega, by show H.lv - 1 < T; omega, all⟩
      · have hd : H.lv - 1 < 0 := by
          by_cases hd : H.lv - 1 < 0
          · exact hd
          · rw [show (HS.down H).st = .next from if_neg hd] at e; cases e
        intro j hj
        exact all j (by omega) hj
    · rw [if_neg (by simpa using hs)]
      show Mk1 c h T B.cells (B.swap _ _ _ _).cells ∧ Hinv c h T _ (B.swap _ _ _ _).cells
      rw [swap_no B (hPl h) H.s (hMk H.s) hx0 hx1 hs]
      exact ⟨.inl rfl, rfl, fun _ => ⟨l0, l1, l2⟩, fun e => by cases e⟩
end
end Go.Proofs.YthbkncklliiooaaH

namespace Go.Proofs.YthbkncklliiooaaH
set_option linter.unusedVariables false
set_option linter.unusedSimpArgs false
set_option linter.unusedSectionVars false
open Go.RowKit

theorem endsf_done {c : Cf} {H : HS} {B : Bk} (hd : H.st = .done) (k : Nat) : endsf c k H B = (0, H, B) := by
  cases k with
  | zero => rfl
  | succ k => exact if_pos hd
theorem endsf_succ {c : Cf} {H : HS} {B : Bk} (hd : H.st ≠ .done) (k : Nat) : endsf c (k + 1) H B = ((endsf c k (H.step c B).1 (H.step c B).2).1 + 1, (endsf c k (H.step c B).1 (H.step c B).2).2) := if_neg hd

theorem ends_pres {c : Cf} (P : HS → Bk → Prop) (hP : ∀ H B, P H B → P (H.step c B).1 (H.step c B).2) : ∀ k H B, P H B → P (endsf c k H B).2.1 (endsf c k H B).2.2
  | 0, H, B, h => h
  | k + 1, H, B, h => by
    by_cases hd : H.st = .done
    · rw [endsf_done hd]; exact h
    · rw [endsf_succ hd]; exact ends_pres P hP k _ _ (hP _ _ h)

theorem step_count {c : Cf} {H : HS} {B : Bk} (hd : H.st ≠ .done) : (H.step c B).2.count = wrap64 (B.count + 1) := by
  cases hst : H.st with
  | done => exact absurd hst hd
  | tall => rw [show (H.step c B).2 = B.load (c.cel (hI H.h) 4) (hPl H.h) by simp only [HS.step, hst]]; exact load_count _ _ _
  | next => rw [show (H.step c B).2 = B.load (c.cel (hI H.h) (6 + H.lv)) (hPl H.h) by simp only [HS.step, hst]]; exact load_count _ _ _
  | mark => rw [show (H.step c B).2 = B.swap (c.cel (hI H.h) (6 + H.lv)) (hPl H.h) H.s (hMk H.s) by simp only [HS.step, hst]]; exact swap_count _ _ _ _ _

theorem down_st (H : HS) : H.down.st = if H.lv - 1 < 0 then .done else .next := rfl
theorem down_lv (H : HS) : H.down.lv = H.lv - 1 := rfl

section
variable {c : Cf} {h : Int} {T : Nat} (C : Ctx c h T)
include C

theorem next_marked {H : HS} {B : Bk} {n : Nat} (R : Row c h T B.cells) (hst : H.st = .next) (hh : H.h = h) (hl : H.lv = n) (hn : n < T) (hm : Mkd c h B.cells n) :
    (H.step c B).1.st = (if (n : Int) - 1 < 0 then .done else .next) ∧ (H.step c B).1.lv = n - 1 ∧ (H.step c B).2.cells = B.cells := by
  obtain ⟨e1, e2⟩ := C.lv hn
  have hlen := R.len
  have eo : (B.load (c.cel (hI h) (6 + H.lv)) (hPl h)).last.old = B.cells.getD (lc c h n) 0 := by
    rw [hl, load_old B (hPl h) (by omega) (by omega), e1]; rfl
  have es : H.step c B = (if hM (B.load (c.cel (hI h) (6 + H.lv)) (hPl h)).last.old = true then HS.down ⟨.next, h, (B.load (c.cel (hI h) (6 + H.lv)) (hPl h)).last.old, H.lv⟩ else ⟨.mark, h, (B.load (c.cel (hI h) (6 + H.lv)) (hPl h)).last.old, H.lv⟩, B.load (c.cel (hI h) (6 + H.lv)) (hPl h)) := by simp only [HS.step, hst, hh]
  rw [es, eo]
  unfold Mkd at hm
  simp only [hm, if_true, load_cells, down_st, down_lv, hl, and_self]

theorem next_unmarked {H : HS} {B : Bk} {n : Nat} (R : Row c h T B.cells) (hst : H.st = .next) (hh : H.h = h) (hl : H.lv = n) (hn : n < T) (hm : ¬ Mkd c h B.cells n) :
    (H.step c B).1.st = .mark ∧ (H.step c B).1.lv = n ∧ (H.step c B).1.s = B.cells.getD (lc c h n) 0 ∧ (H.step c B).2.cells = B.cells := by
  obtain ⟨e1, e2⟩ := C.lv hn
  have hlen := R.len
  have eo : (B.load (c.cel (hI h) (6 + H.lv)) (hPl h)).last.old = B.cells.getD (lc c h n) 0 := by
    rw [hl, load_old B (hPl h) (by omega) (by omega), e1]; rfl
  have es : H.step c B = (if hM (B.load (c.cel (hI h) (6 + H.lv)) (hPl h)).last.old = true then HS.down ⟨.next, h, (B.load (c.cel (hI h) (6 + H.lv)) (hPl h)).last.old, H.lv⟩ else ⟨.mark, h, (B.load (c.cel (hI h) (6 + H.lv)) (hPl h)).last.old, H.lv⟩, B.load (c.cel (hI h) (6 + H.lv)) (hPl h)) := by simp only [HS.step, hst, hh]
  rw [es, eo]
  unfold Mkd at hm
  simp only [hm, load_cells, hl]
  exact ⟨rfl, rfl, rfl, trivial⟩

theorem mark_step {H : HS} {B : Bk} {n : Nat} (R : Row c h T B.cells) (hst : H.st = .mark) (hh : H.h = h) (hl : H.lv = n) (hn : n < T) :
    (H.s = B.cells.getD (lc c h n) 0 ∧ (H.step c B).1.st = (if (n : Int) - 1 < 0 then .done else .next) ∧ (H.step c B).1.lv = n - 1) ∨
    (H.s ≠ B.cells.getD (lc c h n) 0 ∧ (H.step c B).1.st = .next ∧ (H.step c B).1.lv = n) := by
  obtain ⟨e1, e2⟩ := C.lv hn
  have hlen := R.len
  have hx0 : 0 ≤ c.cel (hI h) (6 + H.lv) := by rw [hl]; omega
  have hx1 : c.cel (hI h) (6 + H.lv) < B.cells.length := by rw [hl]; omega
  have eg : B.get (c.cel (hI h) (6 + H.lv)) = B.cells.getD (lc c h n) 0 := by rw [hl, e1]; rfl
  have es : H.step c B = (if (B.swap (c.cel (hI h) (6 + H.lv)) (hPl h) H.s (hMk H.s)).last.done = true then HS.down H else ⟨.next, h, H.s, H.lv⟩, B.swap (c.cel (hI h) (6 + H.lv)) (hPl h) H.s (hMk H.s)) := by simp only [HS.step, hst, hh]
  rw [es, swap_done B (hPl h) H.s (hMk H.s) hx0 hx1, eg]
  by_cases hs : B.cells.getD (lc c h n) 0 = H.s
  · refine .inl ⟨hs.symm, ?_⟩
    simp only [hs, decide_true, if_true, down_st, down_lv, hl, and_self]
  · refine .inr ⟨fun e => hs e.symm, ?_⟩
    rw [if_neg (by simpa using hs)]
    exact ⟨rfl, hl⟩

theorem tall_step {H : HS} {B : Bk} (R : Row c h T B.cells) (hst : H.st = .tall) (hh : H.h = h) :
    (H.step c B).1.st = .next ∧ (H.step c B).1.lv = ((T - 1 : Nat) : Int) ∧ (H.step c B).2.cells = B.cells := by
  obtain ⟨e1, e2⟩ := C.tl
  have hlen := R.len
  have es : H.step c B = (⟨.next, h, H.s, topLv c (B.load (c.cel (hI h) 4) (hPl h)).last.old⟩, B.load (c.cel (hI h) 4) (hPl h)) := by simp only [HS.step, hst, hh]
  have ht : (B.load (c.cel (hI h) 4) (hPl h)).last.old = B.cells.getD (tc c h) 0 := by
    rw [load_old B (hPl h) (by omega) (by omega), e1]; rfl
  have h1 := R.top
  have h2 := C.t0
  rw [es, ht]
  refine ⟨rfl, ?_, load_cells _ _ _⟩
  show topLv c _ = _
  omega

/-- What a run's end is. -/
structure Ended (c : Cf) (B : Bk) (most : Nat) (R : Nat × HS × Bk) : Prop where
  done : R.2.1.st = .done
  most : R.1 ≤ most
  count : R.2.2.count = B.count + R.1

theorem ends_next : ∀ (n : Nat) (H : HS) (B : Bk) (k : Nat), H.st = .next → H.lv = n → n < T → Row c h T B.cells → Hinv c h T H B.cells → 2 * n + 2 ≤ k → 0 ≤ B.count → B.count + 2 * n + 2 ≤ 1000000 →
    Ended c B (2 * n + 2) (endsf c k H B) ∧ ((∀ j : Nat, j ≤ n → Mkd c h B.cells j) → (endsf c k H B).1 = n + 1 ∧ (endsf c k H B).2.2.cells = B.cells) := by
  intro n
  induction n with
  | zero =>
    intro H B k hst hl hn R I hk c0 c1
    obtain ⟨k, rfl⟩ : ∃ k', k = k' + 2 := ⟨k - 2, by omega⟩
    have hnd : H.st ≠ .done := by rw [hst]; decide
    have hcount : (H.step c B).2.count = B.count + 1 := by rw [step_count hnd]; unfold wrap64; omega
    by_cases hm : Mkd c h B.cells 0
    · obtain ⟨s1, s2, s3⟩ := next_marked C R hst I.hh hl hn hm
      have sd : (H.step c B).1.st = .done := by rw [s1]; rfl
      rw [endsf_succ hnd, endsf_done sd]
      exact ⟨⟨sd, by show 0 + 1 ≤ _; omega, by show (H.step c B).2.count = B.count + ((0 + 1 : Nat) : Int); omega⟩, fun _ => ⟨rfl, s3⟩⟩
    · obtain ⟨s1, s2, s3, s4⟩ := next_unmarked C R hst I.hh hl hn hm
      obtain ⟨m1, I1⟩ := step_mk C R I
      have R1 := m1.row C R
      have hnd1 : (H.step c B).1.st ≠ .done := by rw [s1]; decide
      have hcount1 := step_count (c := c) (B := (H.step c B).2) hnd1
      have hc1 : ((H.step c B).1.step c (H.step c B).2).2.count = B.count + 2 := by rw [hcount1]; unfold wrap64; omega
      rcases mark_step C R1 s1 I1.hh s2 hn with ⟨_, t1, t2⟩ | ⟨t0, _⟩
      · have td : ((H.step c B).1.step c (H.step c B).2).1.st = .done := by rw [t1]; rfl
        rw [endsf_succ hnd, endsf_succ hnd1, endsf_done td]
        exact ⟨⟨td, by show 0 + 1 + 1 ≤ _; omega, by show ((H.step c B).1.step c (H.step c B).2).2.count = B.count + ((0 + 1 + 1 : Nat) : Int); omega⟩, fun ha => absurd (ha 0 (by omega)) hm⟩
      · exact absurd (by rw [s3, s4]) t0
  | succ n ih =>
    intro H B k hst hl hn R I hk c0 c1
    obtain ⟨k, rfl⟩ : ∃ k', k = k' + 2 := ⟨k - 2, by omega⟩
    have hnd : H.st ≠ .done := by rw [hst]; decide
    have hcount : (H.step c B).2.count = B.count + 1 := by rw [step_count hnd]; unfold wrap64; omega
    obtain ⟨m1, I1⟩ := step_mk C R I
    have R1 := m1.row C R
    have hif : (if ((n + 1 : Nat) : Int) - 1 < 0 then Wh.done else Wh.next) = .next := if_neg (by omega)
    by_cases hm : Mkd c h B.cells (n + 1)
    · obtain ⟨s1, s2, s3⟩ := next_marked C R hst I.hh hl hn hm
      rw [hif] at s1
      obtain ⟨E, A⟩ := ih (H.step c B).1 (H.step c B).2 (k + 1) s1 (by rw [s2]; omega) (by omega) R1 I1 (by omega) (by omega) (by omega)
      rw [endsf_succ hnd]
      refine ⟨⟨E.done, by have := E.most; show _ + 1 ≤ _; omega, by have := E.count; show _ = B.count + ((_ + 1 : Nat) : Int); rw [this, hcount]; omega⟩, fun ha => ?_⟩
      obtain ⟨a1, a2⟩ := A (fun j hj => by rw [s3]; exact ha j (by omega))
      exact ⟨by show _ + 1 = _; rw [a1], by show _ = B.cells; rw [a2, s3]⟩
    · obtain ⟨s1, s2, s3, s4⟩ := next_unmarked C R hst I.hh hl hn hm
      have hnd1 : (H.step c B).1.st ≠ .done := by rw [s1]; decide
      have hcount1 := step_count (c := c) (B := (H.step c B).2) hnd1
      have hc1 : ((H.step c B).1.step c (H.step c B).2).2.count = B.count + 2 := by rw [hcount1]; unfold wrap64; omega
      obtain ⟨m2, I2⟩ := step_mk C R1 I1
      have R2 := m2.row C R1
      rcases mark_step C R1 s1 I1.hh s2 hn with ⟨_, t1, t2⟩ | ⟨t0, _⟩
      · rw [hif] at t1
        obtain ⟨E, A⟩ := ih _ _ k t1 (by rw [t2]; omega) (by omega) R2 I2 (by omega) (by omega) (by omega)
        rw [endsf_succ hnd, endsf_succ hnd1]
        refine ⟨⟨E.done, by have := E.most; show _ + 1 + 1 ≤ _; omega, by have := E.count; show _ = B.count + ((_ + 1 + 1 : Nat) : Int); rw [this, hc1]; omega⟩, fun ha => absurd (ha (n + 1) (by omega)) hm⟩
      · exact absurd (by rw [s3, s4]) t0

/-- From its begin. -/
theorem ends_tall {H : HS} {B : Bk} {k : Nat} (hst : H.st = .tall) (R : Row c h T B.cells) (I : Hinv c h T H B.cells) (hk : 2 * T + 1 ≤ k) (c0 : 0 ≤ B.count) (c1 : B.count ≤ 1000) :
    Ended c B (2 * T + 1) (endsf c k H B) ∧ ((∀ j : Nat, j < T → Mkd c h B.cells j) → (endsf c k H B).1 = T + 1 ∧ (endsf c k H B).2.2.cells = B.cells) := by
  have h0 := C.t0
  have h6 : T ≤ 6 := by have := C.t1; have := C.ok.2.2.2.2.2.2.2.1; omega
  obtain ⟨k, rfl⟩ : ∃ k', k = k' + 1 := ⟨k - 1, by omega⟩
  have hnd : H.st ≠ .done := by rw [hst]; decide
  have hcount : (H.step c B).2.count = B.count + 1 := by rw [step_count hnd]; unfold wrap64; omega
  obtain ⟨m1, I1⟩ := step_mk C R I
  have R1 := m1.row C R
  obtain ⟨s1, s2, s3⟩ := tall_step C R hst I.hh
  obtain ⟨E, A⟩ := ends_next C (T - 1) _ _ k s1 s2 (by omega) R1 I1 (by omega) (by omega) (by omega)
  rw [endsf_succ hnd]
  refine ⟨⟨E.done, by have := E.most; show _ + 1 ≤ _; omega, by have := E.count; show _ = B.count + ((_ + 1 : Nat) : Int); rw [this, hcount]; omega⟩, fun ha => ?_⟩
  obtain ⟨a1, a2⟩ := A (fun j hj => by rw [s3]; exact ha j (by omega))
  exact ⟨by show _ + 1 = _; rw [a1]; omega, by show _ = B.cells; rw [a2, s3]⟩

/-- From anywhere it ends. -/
theorem ends_any_done {H : HS} {B : Bk} {k : Nat} (R : Row c h T B.cells) (I : Hinv c h T H B.cells) (hk : 14 ≤ k) (c0 : 0 ≤ B.count) (c1 : B.count ≤ 1000) : (endsf c k H B).2.1.st = .done := by
  have h0 := C.t0
  have h6 : T ≤ 6 := by have := C.t1; have := C.ok.2.2.2.2.2.2.2.1; omega
  cases hst : H.st with
  | done => rw [endsf_done hst]; exact hst
  | tall => exact (ends_tall C hst R I (by omega) c0 c1).1.done
  | next =>
    obtain ⟨l0, l1, _⟩ := I.lv (.inl hst)
    obtain ⟨n, hn⟩ := Int.eq_ofNat_of_zero_le l0
    exact (ends_next C n H B k hst hn (by omega) R I (by omega) c0 (by omega)).1.done
  | mark =>
    obtain ⟨l0, l1, _⟩ := I.lv (.inr hst)
    obtain ⟨n, hn⟩ := Int.eq_ofNat_of_zero_le l0
    obtain ⟨k, rfl⟩ : ∃ k', k = k' + 1 := ⟨k - 1, by omega⟩
    have hnd : H.st ≠ .done := by rw [hst]; decide
    have hcount : (H.step c B).2.count = B.count + 1 := by rw [step_count hnd]; unfold wrap64; omega
    obtain ⟨m1, I1⟩ := step_mk C R I
    have R1 := m1.row C R
    rw [endsf_succ hnd]
    show (endsf c k (H.step c B).1 (H.step c B).2).2.1.st = .done
    rcases mark_step C R hst I.hh hn (by omega) with ⟨_, t1, t2⟩ | ⟨_, t1, t2⟩
    · by_cases hz : (n : Int) - 1 < 0
      · rw [if_pos hz] at t1
        rw [endsf_done t1]; exact t1
      · rw [if_neg hz] at t1
        exact (ends_next C (n - 1) _ _ k t1 (by rw [t2]; omega) (by omega) R1 I1 (by omega) (by omega) (by omega)).1.done
    · exact (ends_next C n _ _ k t1 t2 (by omega) R1 I1 (by omega) (by omega) (by omega)).1.done

/-- All that a run keeps. -/
structure Runs (c : Cf) (h : Int) (T : Nat) (l0 : List Int) (H : HS) (B : Bk) : Prop where
  row : Row c h T B.cells
  inv : Hinv c h T H B.cells
  kept : Kept2 c h T l0 B.cells
theorem Runs.step {l0 : List Int} (R0 : Row c h T l0) {H : HS} {B : Bk} (r : Runs c h T l0 H B) : Runs c h T l0 (H.step c B).1 (H.step c B).2 := by
  obtain ⟨m, I⟩ := step_mk C r.row r.inv
  exact ⟨m.row C r.row, I, m.kept C R0 r.kept⟩
theorem Runs.ends {l0 : List Int} (R0 : Row c h T l0) {H : HS} {B : Bk} (r : Runs c h T l0 H B) (k : Nat) : Runs c h T l0 (endsf c k H B).2.1 (endsf c k H B).2.2 :=
  ends_pres (Runs c h T l0) (fun _ _ r => r.step C R0) k H B r
theorem Runs.new {l0 : List Int} (R0 : Row c h T l0) : Runs c h T l0 (HS.new h) ⟨l0, 0, Acc.zero⟩ :=
  ⟨R0, ⟨rfl, (fun e => by rcases e with e | e <;> cases e), (fun e => by cases e)⟩, rfl, fun k => .inl rfl⟩

/-- Words of which all levels have the mark are known. -/
theorem kept_fin {l0 l : List Int} (k : Kept2 c h T l0 l) (ha : ∀ j : Nat, j < T → Mkd c h l j) (j : Nat) :
    ((∃ n : Nat, n < T ∧ j = lc c h n) → l.getD j 0 = hMk (l0.getD j 0)) ∧ ((¬ ∃ n : Nat, n < T ∧ j = lc c h n) → l.getD j 0 = l0.getD j 0) := by
  refine ⟨fun ⟨n, hn, e⟩ => ?_, fun hno => ?_⟩
  · rcases k.2 j with e2 | ⟨_, e2⟩
    · have := ha n hn
      unfold Mkd at this
      rw [← e, e2] at this
      rw [e2, hMk_of this]
    · exact e2
  · rcases k.2 j with e2 | ⟨e1, _⟩
    · exact e2
    · exact absurd e1 hno
end
end Go.Proofs.YthbkncklliiooaaH
