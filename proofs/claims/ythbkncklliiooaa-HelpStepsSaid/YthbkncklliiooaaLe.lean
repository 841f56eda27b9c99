/-
  The reference's step, whatever the help; are the words the document's; what is written meanwhile, by the reference.
-/
import Derived.Test.YthbkncklliiooaaRg
import Derived.Test.YthbkncklliiooaaRi
import Derived.Test.YthbkncklliiooaaQx28
import Derived.Test.YthbkncklliiooaaRk
import Derived.Test.YthbkncklliiooaaHv
import Derived.Test.YthbkncklliiooaaOpen
import Derived.Deep.Fields
import Derived.Deep.Slices
import Derived.Deep.Grids
namespace Go.Proofs.YthbkncklliiooaaH
set_option linter.unusedVariables false
set_option linter.unusedSimpArgs false
open Go.RowKit Go.Proofs.Ythbkncklliiooaa.Q Go.Proofs.YthbkncklliiooaaW.PrintWords Go.Proofs.YthbkncklliiooaaW.PrintLast Go.Proofs.YthbkncklliiooaaW.PrintMore

theorem rh_down (st : Wh) (h s z lv : Int) (l0 : 0 ≤ lv) : RH ⟨h, 1, lv - 1, z, lv == 0⟩ (HS.down ⟨st, h, s, lv⟩) := by
  by_cases k : lv - 1 < 0
  · have e0 : lv = 0 := by omega
    subst e0
    exact ⟨rfl, rfl, (fun q => by cases q), (fun q => by cases q), (fun q => by cases q)⟩
  · have hd : (HS.down ⟨st, h, s, lv⟩).st = .next := if_neg k
    refine ⟨rfl, ?_, ?_, fun _ => ⟨rfl, rfl⟩, ?_⟩
    · rw [hd]
      have : lv ≠ 0 := by omega
      simp [this]
    · rw [hd]; intro q; cases q
    · rw [hd]; intro q; cases q

theorem rstep_any (c : Cf) (hc : c.Ok) (H : HS) (B : Bk) (R : RHS) (s : Value) (w : World) (hR : RH R H) (hF : H.Fit) (hB : B.Wd) (hv : Words w s B.cells) (hne : B.cells ≠ []) (hl : B.cells.length ≤ 400) :
    Calls Try.prog 45 #[R.val, mval c s B] w fun e w' => ∃ R' s', e = .returned (.tuple #[R'.val, mval c s' (H.step c B).2]) ∧ RH R' (H.step c B).1 ∧ Words w' s' (H.step c B).2.cells ∧ Gr w w' ∧ Fresh w s s' := by
  obtain ⟨h, nx, lv, z, dn⟩ := R
  obtain ⟨e1, e2, e3, e4, e5⟩ := hR
  simp only at e1 e2 e3 e4 e5
  subst e1
  have hh := hF.h
  have wb : ∀ x : Int, 0 ≤ x → x ≤ 10 → wrap64 (6 + x) = 6 + x := fun x h0 h1 => w64 (by omega) (by omega)
  cases hst : H.st with
  | done =>
    have hs : H.step c B = (H, B) := by simp only [HS.step, hst]
    rw [hs]
    refine (rstep_done c s B H.h nx lv z dn w hv hne (by rw [e2, hst]; rfl)).mono ?_
    rintro e w' ⟨s', rfl, k1, k2, k3⟩
    exact ⟨_, s', rfl, ⟨rfl, e2, e3, e4, e5⟩, k1, k2, k3⟩
  | tall =>
    have hs : H.step c B = (⟨.next, H.h, H.s, topLv c (B.load (c.cel (hI H.h) 4) (hPl H.h)).last.old⟩, B.load (c.cel (hI H.h) 4) (hPl H.h)) := by simp only [HS.step, hst]
    rw [hs]
    refine (rstep_tall c s B H.h nx lv z dn w hv hne hc (by rw [e2, hst]; rfl) (e3 hst) (B.load (c.cel (hI H.h) 4) (hPl H.h)) (load_old_u64 hB _ _) (fun s w hv => rmload_any c s B H.h 4 hh w hv hne hl)).mono ?_
    rintro e w' ⟨s', rfl, k1, k2, k3⟩
    exact ⟨_, s', rfl, ⟨rfl, rfl, (fun q => by cases q), (fun _ => ⟨rfl, rfl⟩), (fun q => by cases q)⟩, k1, k2, k3⟩
  | next =>
    obtain ⟨n1, rfl⟩ := e4 hst
    have l0 := hF.lo (.inl hst)
    have l1 := hF.hi
    have ld : ∀ s w, Words w s B.cells → Calls Try.prog 68 #[mval c s B, .int .u64 H.h, .int .i64 (wrap64 (6 + H.lv))] w (MTold w c s (B.load (c.cel (hI H.h) (6 + H.lv)) (hPl H.h)) (.int .u64 (B.load (c.cel (hI H.h) (6 + H.lv)) (hPl H.h)).last.old)) := fun s w hv => by
      rw [wb H.lv l0 l1]
      exact rmload_any c s B H.h (6 + H.lv) hh w hv hne hl
    have hu := load_old_u64 hB (c.cel (hI H.h) (6 + H.lv)) (hPl H.h)
    cases hm : hM (B.load (c.cel (hI H.h) (6 + H.lv)) (hPl H.h)).last.old
    · have hs : H.step c B = (⟨.mark, H.h, (B.load (c.cel (hI H.h) (6 + H.lv)) (hPl H.h)).last.old, H.lv⟩, B.load (c.cel (hI H.h) (6 + H.lv)) (hPl H.h)) := by simp only [HS.step, hst, hm, Bool.false_eq_true, if_false]
      rw [hs]
      refine (rstep_next_no c s B H.h nx H.lv z dn w hv hne (by rw [e2, hst]; rfl) n1 l0 l1 _ hu hm ld).mono ?_
      rintro e w' ⟨s', rfl, k1, k2, k3⟩
      exact ⟨_, s', rfl, ⟨rfl, rfl, (fun q => by cases q), (fun q => by cases q), (fun _ => ⟨rfl, rfl, rfl⟩)⟩, k1, k2, k3⟩
    · have hs : H.step c B = (HS.down ⟨.next, H.h, (B.load (c.cel (hI H.h) (6 + H.lv)) (hPl H.h)).last.old, H.lv⟩, B.load (c.cel (hI H.h) (6 + H.lv)) (hPl H.h)) := by simp only [HS.step, hst, hm, if_true]
      rw [hs]
      refine (rstep_next_yes c s B H.h nx H.lv z dn w hv hne (by rw [e2, hst]; rfl) n1 l0 l1 _ hu hm ld).mono ?_
      rintro e w' ⟨s', rfl, k1, k2, k3⟩
      exact ⟨_, s', rfl, rh_down _ _ _ _ _ l0, k1, k2, k3⟩
  | mark =>
    obtain ⟨n1, rfl, rfl⟩ := e5 hst
    have l0 := hF.lo (.inr hst)
    have l1 := hF.hi
    have ld : ∀ s w, Words w s B.cells → Calls Try.prog 71 #[mval c s B, .int .u64 H.h, .int .i64 (wrap64 (6 + H.lv)), .int .u64 H.s, .int .u64 (hMk H.s)] w (MTold w c s (B.swap (c.cel (hI H.h) (6 + H.lv)) (hPl H.h) H.s (hMk H.s)) (.bool (B.swap (c.cel (hI H.h) (6 + H.lv)) (hPl H.h) H.s (hMk H.s)).last.done)) := fun s w hv => by
      rw [wb H.lv l0 l1]
      exact rmswap_any c s B H.h (6 + H.lv) H.s (hMk H.s) hh w hv hne hl
    cases hm : (B.swap (c.cel (hI H.h) (6 + H.lv)) (hPl H.h) H.s (hMk H.s)).last.done
    · have hs : H.step c B = (⟨.next, H.h, H.s, H.lv⟩, B.swap (c.cel (hI H.h) (6 + H.lv)) (hPl H.h) H.s (hMk H.s)) := by simp only [HS.step, hst, hm, Bool.false_eq_true, if_false]
      rw [hs]
      refine (rstep_mark_no c s B H.h nx H.lv H.s dn w hv hne (by rw [e2, hst]; rfl) n1 l0 l1 _ hF.s hm ld).mono ?_
      rintro e w' ⟨s', rfl, k1, k2, k3⟩
      exact ⟨_, s', rfl, ⟨rfl, rfl, (fun q => by cases q), (fun _ => ⟨rfl, rfl⟩), (fun q => by cases q)⟩, k1, k2, k3⟩
    · have hs : H.step c B = (HS.down H, B.swap (c.cel (hI H.h) (6 + H.lv)) (hPl H.h) H.s (hMk H.s)) := by simp only [HS.step, hst, hm, if_true]
      rw [hs]
      refine (rstep_mark_yes c s B H.h nx H.lv H.s dn w hv hne (by rw [e2, hst]; rfl) n1 l0 l1 _ hF.s hm ld).mono ?_
      rintro e w' ⟨s', rfl, k1, k2, k3⟩
      exact ⟨_, s', rfl, rh_down H.st _ _ _ _ l0, k1, k2, k3⟩

end Go.Proofs.YthbkncklliiooaaH

namespace Go.Proofs.YthbkncklliiooaaH
set_option linter.unusedVariables false
set_option linter.unusedSimpArgs false
open Go.RowKit Go.Proofs.Ythbkncklliiooaa.Q Go.Proofs.YthbkncklliiooaaW.PrintWords Go.Proofs.YthbkncklliiooaaW.PrintLast Go.Proofs.YthbkncklliiooaaW.PrintMore
attribute [local go_sem] max2_int min2_int

theorem poked_any (m p q : Nat) (c : Cf) (B : Bk) (s : Value) (w : World) (hm : IsMem w m p q c B) (hB : B.Wd) (hv : Words w s B.cells) (ha : Away p q s) (hne : B.cells ≠ []) (hl : B.cells.length ≤ 400)
    (A : Option Addr) (cap : Nat) (ps : List P3) (hp : PkRow w A ps) (hpa : ∀ a, A = some a → 0 < ps.length → a.block ≠ p ∧ a.block ≠ q) (hu : ∀ x ∈ ps, U64 x.v) (hpl : ps.length ≤ 30) (k : Int) :
    Calls Try.prog 44 #[.pointer (some ⟨m, 0, none⟩), mval c s B, .slice A ps.length cap, .int .i64 k] w (Poked w m p q c B.cells.length s) := by
  cases A with
  | none => exact poked_none m p q c B s w hm hB hv ha hne hl cap ps (by
      by_cases h : 0 < ps.length
      · obtain ⟨_, e, _⟩ := hp 0 h; cases e
      · omega) hu hpl k
  | some a => exact poked_some m p q c B s w hm hB hv ha hne hl a cap ps hp (hpa a rfl) hu hpl k

/-- What is there at each step. -/
structure Sin (w : World) (m p q xa xr xb xz : Nat) (c : Cf) (n : Nat) (zb : Array Value) (H : HS) (B : Bk) (R : RHS) (s : Value) (wr : World) : Prop where
  help : IsHelp wr xa H
  mem : IsMem wr m p q c B
  r : ∃ A cap, s = .slice A B.cells.length cap ∧ Blk wr xr #[.int .i64 c.th, .int .i64 c.sl, .int .i64 c.cp, .int .i64 c.he, .int .i64 c.ke, .int .i64 c.ev, .int .i64 c.la, .slice A B.cells.length cap, .int .i64 B.count, .int .i64 B.last.kind, .int .i64 B.last.cell, .int .u64 B.last.via, .int .u64 B.last.old, .int .u64 B.last.new, .bool B.last.done] 50
  b : Blk wr xb #[.int .u64 R.h, .int .i64 R.nx, .int .i64 R.lv, .int .u64 R.s, .bool R.dn] 84
  z : Blk wr xz zb 82
  words : Words wr s B.cells
  away : ∀ a n c, s = .slice (some a) n c → a.block ≠ p ∧ a.block ≠ q ∧ a.block ≠ xa ∧ a.block ≠ xr ∧ a.block ≠ xb
  rh : RH R H
  fit : H.Fit
  wd : B.Wd
  len : B.cells.length = n
  gr : Gr w wr
theorem Sin.step {w : World} {m p q xa xr xb xz : Nat} {c : Cf} {n : Nat} {zb : Array Value} {H : HS} {B : Bk} {R : RHS} {s : Value} {wr w' : World} (h : Sin w m p q xa xr xb xz c n zb H B R s wr) (g : Gr wr w') : Sin w m p q xa xr xb xz c n zb H B R s w' := by
  obtain ⟨A, cap, e, hr⟩ := h.r
  exact ⟨Blk.gr h.help g, h.mem.gr g, ⟨A, cap, e, hr.gr g⟩, h.b.gr g, h.z.gr g, h.words.gr g, h.away, h.rh, h.fit, h.wd, h.len, h.gr.trans g⟩
theorem sin_meas {M n : Nat} (h : n < M) : M - (intOf (.int .i64 ((n : Int) + 1))).toNat < M - (intOf (.int .i64 (n : Int))).toNat := by
  simp [intOf]; omega
theorem Chg.either {a b : Nat} {w w1 w2 : World} (h : Chg (· = a) w w1) (k : Chg (· = b) w1 w2) : Chg (fun i => i = a ∨ i = b) w w2 := (h.mono fun _ e => .inl e).trans (k.mono fun _ e => .inr e)
theorem step_len (c : Cf) (H : HS) (B : Bk) : (H.step c B).2.cells.length = B.cells.length := by
  have h1 : ∀ x y, (B.load x y).cells.length = B.cells.length := fun x y => by unfold Bk.load; split <;> simp [Bk.done, Bk.none]
  have h2 : ∀ x y o v, (B.swap x y o v).cells.length = B.cells.length := fun x y o v => by unfold Bk.swap; split <;> simp [Bk.done, Bk.none]
  unfold HS.step
  split
  · rfl
  · exact h1 _ _
  · exact h1 _ _
  · exact h2 _ _ _ _
theorem hdone_any (a : Nat) (H : HS) (w : World) (hH : IsHelp w a H) (b : Bool) (hb : b = decide (H.st = .done)) : Calls Try.prog 35 #[.pointer (some ⟨a, 0, none⟩)] w fun e w' => e = .returned (.bool b) ∧ w = w' := by
  subst hb
  by_cases h : H.st = .done
  · rw [decide_eq_true h]; exact hdone_yes a H w hH h
  · rw [decide_eq_false h]; exact hdone_no a H w hH h

set_option maxRecDepth 100000 in
set_option maxHeartbeats 8000000 in
theorem steps_none (c : Cf) (v : Value) (l : List Int) (w : World) (hw : Words w v l) (hu : ∀ x ∈ l, U64 x) (h : Int) (hh : U64 h) (st : Int) (Ap : Option Addr) (capp : Nat) (ps : List P3) (hp : PkRow w Ap ps) (hpu : ∀ x ∈ ps, U64 x.v) (hno : ¬ There c l) :
    Calls Try.prog 13 #[.agg #[.int .i64 c.th, .int .i64 c.sl, .int .i64 c.cp, .int .i64 c.he, .int .i64 c.ke, .int .i64 c.ev, .int .i64 c.la], v, .agg #[.int .u64 h, .int .i64 st, .slice Ap ps.length capp]] w fun e w' => e = .returned (.bool true) ∧ Gr w w' := by
  have hl := fun w hw => lof_no c v l w hw hno
  unfold Cf.val zeroMem at hl
  have HL := hid hl
  have HW := hid hw
  clear hl hw hno hp hpu hu
  go_enter Try.func13, Try.ntmps13
  go_wp2_with fail
  have G0 := hid (((Gr.refl w).alloc (.cells #[.int .i64 c.th, .int .i64 c.sl, .int .i64 c.cp, .int .i64 c.he, .int .i64 c.ke, .int .i64 c.ev, .int .i64 c.la] 23)).alloc (.cells #[.int .u64 h, .int .i64 st, .slice Ap ps.length capp] 82))
  have AZ : Hid (Blk ((w.alloc (.cells #[.int .i64 c.th, .int .i64 c.sl, .int .i64 c.cp, .int .i64 c.he, .int .i64 c.ke, .int .i64 c.ev, .int .i64 c.la] 23)).alloc (.cells #[.int .u64 h, .int .i64 st, .slice Ap ps.length capp] 82)) (w.heap.size + 1) #[.int .u64 h, .int .i64 st, .slice Ap ps.length capp] 82) := hid (Blk.new' (by simp))
  generalize ((w.alloc (.cells #[.int .i64 c.th, .int .i64 c.sl, .int .i64 c.cp, .int .i64 c.he, .int .i64 c.ke, .int .i64 c.ev, .int .i64 c.la] 23)).alloc (.cells #[.int .u64 h, .int .i64 st, .slice Ap ps.length capp] 82)) = w0 at *
  have hxz : w.heap.size + 1 < w0.heap.size := AZ.out.lt
  generalize exz : w.heap.size + 1 = xz at *
  have XZ : Hid (w.heap.size < xz ∧ xz < w0.heap.size) := hid ⟨by omega, hxz⟩
  clear hxz exz
  refine (HL.out _ (HW.out.gr G0.out)).mono ?_
  rintro e w1 ⟨rfl, g1⟩
  have BZ := hid (Blk.gr AZ.out g1)
  have G1 := hid (Gr.trans G0.out g1)
  clear g1
  obtain ⟨z0, z1, z2⟩ := cells3 (BZ.out)
  have zl := BZ.out.lt
  go_wp2_with fail
  refine (hnew_any h _).mono ?_
  rintro e w2 ⟨rfl, rfl⟩
  go_wp2_with fail
  refine (halive _).mono ?_
  rintro e W3 ⟨rfl, g3⟩
  go_wp2_with fail
  go_ret
  exact ⟨rfl, Gr.trans ((G1.out.alloc _).alloc _) g3⟩

set_option maxRecDepth 100000 in
set_option maxHeartbeats 8000000 in
theorem steps_long (c : Cf) (v : Value) (l : List Int) (w : World) (hw : Words w v l) (hu : ∀ x ∈ l, U64 x) (h : Int) (hh : U64 h) (st : Int) (Ap : Option Addr) (capp : Nat) (ps : List P3) (hp : PkRow w Ap ps) (hpu : ∀ x ∈ ps, U64 x.v) (hth : There c l) (hst : 200 < st) :
    Calls Try.prog 13 #[.agg #[.int .i64 c.th, .int .i64 c.sl, .int .i64 c.cp, .int .i64 c.he, .int .i64 c.ke, .int .i64 c.ev, .int .i64 c.la], v, .agg #[.int .u64 h, .int .i64 st, .slice Ap ps.length capp]] w fun e w' => e = .returned (.bool true) ∧ Gr w w' := by
  have hd : decide (200 < st) = true := decide_eq_true hst
  have HTH := hid hth
  clear hp hpu hu
  have hl := fun w hw => lof_yes c v l w hw hth
  unfold Cf.val MadeBoth refMem Acc.zero at hl
  have HL := hid hl
  have HW := hid hw
  clear hl hw
  go_enter Try.func13, Try.ntmps13
  go_wp2_with fail
  have G0 := hid (((Gr.refl w).alloc (.cells #[.int .i64 c.th, .int .i64 c.sl, .int .i64 c.cp, .int .i64 c.he, .int .i64 c.ke, .int .i64 c.ev, .int .i64 c.la] 23)).alloc (.cells #[.int .u64 h, .int .i64 st, .slice Ap ps.length capp] 82))
  have AZ : Hid (Blk ((w.alloc (.cells #[.int .i64 c.th, .int .i64 c.sl, .int .i64 c.cp, .int .i64 c.he, .int .i64 c.ke, .int .i64 c.ev, .int .i64 c.la] 23)).alloc (.cells #[.int .u64 h, .int .i64 st, .slice Ap ps.length capp] 82)) (w.heap.size + 1) #[.int .u64 h, .int .i64 st, .slice Ap ps.length capp] 82) := hid (Blk.new' (by simp))
  generalize ((w.alloc (.cells #[.int .i64 c.th, .int .i64 c.sl, .int .i64 c.cp, .int .i64 c.he, .int .i64 c.ke, .int .i64 c.ev, .int .i64 c.la] 23)).alloc (.cells #[.int .u64 h, .int .i64 st, .slice Ap ps.length capp] 82)) = w0 at *
  have hxz : w.heap.size + 1 < w0.heap.size := AZ.out.lt
  generalize exz : w.heap.size + 1 = xz at *
  have XZ : Hid (w.heap.size < xz ∧ xz < w0.heap.size) := hid ⟨by omega, hxz⟩
  clear hxz exz
  refine (HL.out _ (HW.out.gr G0.out)).mono ?_
  rintro e w1 ⟨m, p, q, g, cap, rfl, hm, hwr, g1, ⟨sm, sp, sq, sg⟩, hapart, hglt⟩
  have BZ := hid (Blk.gr AZ.out g1)
  have G1 := hid (Gr.trans G0.out g1)
  have M1 := hid hm
  have WR := hid hwr
  have SS : Hid (w0.heap.size ≤ m ∧ w0.heap.size ≤ p ∧ w0.heap.size ≤ q ∧ m < w1.heap.size ∧ p < w1.heap.size ∧ q < w1.heap.size) := hid ⟨sm, sp, sq, hm.mem.lt, hm.bank.head.lt, hm.bank.row.lt⟩
  have GP := hid (⟨hapart, hglt⟩ : _ ∧ _)
  clear g1 hm hwr sm sp sq sg hapart hglt
  obtain ⟨z0, z1, z2⟩ := cells3 (BZ.out)
  have zl := BZ.out.lt
  go_wp2_with fail
  refine (hnew_any h _).mono ?_
  rintro e w2 ⟨rfl, rfl⟩
  go_wp2_with fail
  refine (halive _).mono ?_
  rintro e W3 ⟨rfl, g3⟩
  go_wp2_with fail
  go_ret
  exact ⟨rfl, Gr.trans ((G1.out.alloc _).alloc _) g3⟩

set_option maxRecDepth 100000 in
set_option maxHeartbeats 8000000 in
theorem steps_many (c : Cf) (v : Value) (l : List Int) (w : World) (hw : Words w v l) (hu : ∀ x ∈ l, U64 x) (h : Int) (hh : U64 h) (st : Int) (Ap : Option Addr) (capp : Nat) (ps : List P3) (hp : PkRow w Ap ps) (hpu : ∀ x ∈ ps, U64 x.v) (hth : There c l) (hst : ¬ 200 < st) (hps : 30 < ps.length) :
    Calls Try.prog 13 #[.agg #[.int .i64 c.th, .int .i64 c.sl, .int .i64 c.cp, .int .i64 c.he, .int .i64 c.ke, .int .i64 c.ev, .int .i64 c.la], v, .agg #[.int .u64 h, .int .i64 st, .slice Ap ps.length capp]] w fun e w' => e = .returned (.bool true) ∧ Gr w w' := by
  have hd : decide (200 < st) = false := decide_eq_false hst
  have hd2 : decide (30 < (ps.length : Int)) = true := decide_eq_true (by omega)
  have HTH := hid hth
  clear hp hpu hu
  have hl := fun w hw => lof_yes c v l w hw hth
  unfold Cf.val MadeBoth refMem Acc.zero at hl
  have HL := hid hl
  have HW := hid hw
  clear hl hw
  go_enter Try.func13, Try.ntmps13
  go_wp2_with fail
  have G0 := hid (((Gr.refl w).alloc (.cells #[.int .i64 c.th, .int .i64 c.sl, .int .i64 c.cp, .int .i64 c.he, .int .i64 c.ke, .int .i64 c.ev, .int .i64 c.la] 23)).alloc (.cells #[.int .u64 h, .int .i64 st, .slice Ap ps.length capp] 82))
  have AZ : Hid (Blk ((w.alloc (.cells #[.int .i64 c.th, .int .i64 c.sl, .int .i64 c.cp, .int .i64 c.he, .int .i64 c.ke, .int .i64 c.ev, .int .i64 c.la] 23)).alloc (.cells #[.int .u64 h, .int .i64 st, .slice Ap ps.length capp] 82)) (w.heap.size + 1) #[.int .u64 h, .int .i64 st, .slice Ap ps.length capp] 82) := hid (Blk.new' (by simp))
  generalize ((w.alloc (.cells #[.int .i64 c.th, .int .i64 c.sl, .int .i64 c.cp, .int .i64 c.he, .int .i64 c.ke, .int .i64 c.ev, .int .i64 c.la] 23)).alloc (.cells #[.int .u64 h, .int .i64 st, .slice Ap ps.length capp] 82)) = w0 at *
  have hxz : w.heap.size + 1 < w0.heap.size := AZ.out.lt
  generalize exz : w.heap.size + 1 = xz at *
  have XZ : Hid (w.heap.size < xz ∧ xz < w0.heap.size) := hid ⟨by omega, hxz⟩
  clear hxz exz
  refine (HL.out _ (HW.out.gr G0.out)).mono ?_
  rintro e w1 ⟨m, p, q, g, cap, rfl, hm, hwr, g1, ⟨sm, sp, sq, sg⟩, hapart, hglt⟩
  have BZ := hid (Blk.gr AZ.out g1)
  have G1 := hid (Gr.trans G0.out g1)
  have M1 := hid hm
  have WR := hid hwr
  have SS : Hid (w0.heap.size ≤ m ∧ w0.heap.size ≤ p ∧ w0.heap.size ≤ q ∧ m < w1.heap.size ∧ p < w1.heap.size ∧ q < w1.heap.size) := hid ⟨sm, sp, sq, hm.mem.lt, hm.bank.head.lt, hm.bank.row.lt⟩
  have GP := hid (⟨hapart, hglt⟩ : _ ∧ _)
  clear g1 hm hwr sm sp sq sg hapart hglt
  obtain ⟨z0, z1, z2⟩ := cells3 (BZ.out)
  have zl := BZ.out.lt
  go_wp2_with fail
  refine (hnew_any h _).mono ?_
  rintro e w2 ⟨rfl, rfl⟩
  go_wp2_with fail
  refine (halive _).mono ?_
  rintro e W3 ⟨rfl, g3⟩
  go_wp2_with fail
  go_ret
  exact ⟨rfl, Gr.trans ((G1.out.alloc _).alloc _) g3⟩

set_option maxRecDepth 100000 in
set_option maxHeartbeats 8000000 in
theorem steps_zero (c : Cf) (v : Value) (l : List Int) (w : World) (hw : Words w v l) (hu : ∀ x ∈ l, U64 x) (h : Int) (hh : U64 h) (st : Int) (Ap : Option Addr) (capp : Nat) (ps : List P3) (hp : PkRow w Ap ps) (hpu : ∀ x ∈ ps, U64 x.v) (hth : There c l) (hst : ¬ 200 < st) (hps : ¬ 30 < ps.length) (hz : st ≤ 0) :
    Calls Try.prog 13 #[.agg #[.int .i64 c.th, .int .i64 c.sl, .int .i64 c.cp, .int .i64 c.he, .int .i64 c.ke, .int .i64 c.ev, .int .i64 c.la], v, .agg #[.int .u64 h, .int .i64 st, .slice Ap ps.length capp]] w fun e w' => e = .returned (.bool true) ∧ Gr w w' := by
  have hd : decide (200 < st) = false := decide_eq_false hst
  have hd2 : decide (30 < (ps.length : Int)) = false := decide_eq_false (by omega)
  have hpos0 : 0 < l.length := by have := (cells_pos c).2 hth.1; have := hth.2.1; omega
  have HPOS := hid hpos0
  have HTH := hid hth
  have HP := hid hp
  have HPU := hid hpu
  have HU := hid hu
  clear hp hpu hu hpos0
  have hl := fun w hw => lof_yes c v l w hw hth
  unfold Cf.val MadeBoth refMem Acc.zero at hl
  have HL := hid hl
  have HW := hid hw
  clear hl hw
  go_enter Try.func13, Try.ntmps13
  go_wp2_with fail
  have G0 := hid (((Gr.refl w).alloc (.cells #[.int .i64 c.th, .int .i64 c.sl, .int .i64 c.cp, .int .i64 c.he, .int .i64 c.ke, .int .i64 c.ev, .int .i64 c.la] 23)).alloc (.cells #[.int .u64 h, .int .i64 st, .slice Ap ps.length capp] 82))
  have AZ : Hid (Blk ((w.alloc (.cells #[.int .i64 c.th, .int .i64 c.sl, .int .i64 c.cp, .int .i64 c.he, .int .i64 c.ke, .int .i64 c.ev, .int .i64 c.la] 23)).alloc (.cells #[.int .u64 h, .int .i64 st, .slice Ap ps.length capp] 82)) (w.heap.size + 1) #[.int .u64 h, .int .i64 st, .slice Ap ps.length capp] 82) := hid (Blk.new' (by simp))
  generalize ((w.alloc (.cells #[.int .i64 c.th, .int .i64 c.sl, .int .i64 c.cp, .int .i64 c.he, .int .i64 c.ke, .int .i64 c.ev, .int .i64 c.la] 23)).alloc (.cells #[.int .u64 h, .int .i64 st, .slice Ap ps.length capp] 82)) = w0 at *
  have hxz : w.heap.size + 1 < w0.heap.size := AZ.out.lt
  generalize exz : w.heap.size + 1 = xz at *
  have XZ : Hid (w.heap.size < xz ∧ xz < w0.heap.size) := hid ⟨by omega, hxz⟩
  clear hxz exz
  refine (HL.out _ (HW.out.gr G0.out)).mono ?_
  rintro e w1 ⟨m, p, q, g, cap, rfl, hm, hwr, g1, ⟨sm, sp, sq, sg⟩, hapart, hglt⟩
  have BZ := hid (Blk.gr AZ.out g1)
  have G1 := hid (Gr.trans G0.out g1)
  have M1 := hid hm
  have WR := hid hwr
  have SS : Hid (w0.heap.size ≤ m ∧ w0.heap.size ≤ p ∧ w0.heap.size ≤ q ∧ m < w1.heap.size ∧ p < w1.heap.size ∧ q < w1.heap.size) := hid ⟨sm, sp, sq, hm.mem.lt, hm.bank.head.lt, hm.bank.row.lt⟩
  have GP := hid (⟨hapart, hglt⟩ : _ ∧ _)
  clear g1 hm hwr sm sp sq sg hapart hglt
  obtain ⟨z0, z1, z2⟩ := cells3 (BZ.out)
  have zl := BZ.out.lt
  go_wp2_with fail
  refine (hnew_any h _).mono ?_
  rintro e w2 ⟨rfl, rfl⟩
  have zl1 : xz < w1.heap.size + 1 := by omega
  have zl2 : xz < w1.heap.size + 1 + 1 := by omega
  have zl3 : xz < w1.heap.size + 1 + 1 + 1 := by omega
  go_wp2_with fail
  clear z0 z1 z2 zl zl1 zl2 zl3
  have GW : Hid (Gr w1 (((w1.alloc (.cells #[.int .i64 c.th, .int .i64 c.sl, .int .i64 c.cp, .int .i64 c.he, .int .i64 c.ke, .int .i64 c.ev, .int .i64 c.la, .slice (some ⟨g, 0, none⟩) l.length cap, .int .i64 0, .int .i64 0, .int .i64 0, .int .u64 0, .int .u64 0, .int .u64 0, .bool false] 50)).alloc (.cells (helpRow (HS.new h)) 98)).alloc (.cells #[.int .u64 h, .int .i64 0, .int .i64 0, .int .u64 0, .bool false] 84))) := hid ((((Gr.refl w1).alloc (.cells #[.int .i64 c.th, .int .i64 c.sl, .int .i64 c.cp, .int .i64 c.he, .int .i64 c.ke, .int .i64 c.ev, .int .i64 c.la, .slice (some ⟨g, 0, none⟩) l.length cap, .int .i64 0, .int .i64 0, .int .i64 0, .int .u64 0, .int .u64 0, .int .u64 0, .bool false] 50)).alloc (.cells (helpRow (HS.new h)) 98)).alloc (.cells #[.int .u64 h, .int .i64 0, .int .i64 0, .int .u64 0, .bool false] 84))
  have HA : Hid (Blk (((w1.alloc (.cells #[.int .i64 c.th, .int .i64 c.sl, .int .i64 c.cp, .int .i64 c.he, .int .i64 c.ke, .int .i64 c.ev, .int .i64 c.la, .slice (some ⟨g, 0, none⟩) l.length cap, .int .i64 0, .int .i64 0, .int .i64 0, .int .u64 0, .int .u64 0, .int .u64 0, .bool false] 50)).alloc (.cells (helpRow (HS.new h)) 98)).alloc (.cells #[.int .u64 h, .int .i64 0, .int .i64 0, .int .u64 0, .bool false] 84)) (w1.heap.size + 1) (helpRow (HS.new h)) 98) := hid ((Blk.new' (by simp)).alloc _)
  have HR : Hid (Blk (((w1.alloc (.cells #[.int .i64 c.th, .int .i64 c.sl, .int .i64 c.cp, .int .i64 c.he, .int .i64 c.ke, .int .i64 c.ev, .int .i64 c.la, .slice (some ⟨g, 0, none⟩) l.length cap, .int .i64 0, .int .i64 0, .int .i64 0, .int .u64 0, .int .u64 0, .int .u64 0, .bool false] 50)).alloc (.cells (helpRow (HS.new h)) 98)).alloc (.cells #[.int .u64 h, .int .i64 0, .int .i64 0, .int .u64 0, .bool false] 84)) w1.heap.size #[.int .i64 c.th, .int .i64 c.sl, .int .i64 c.cp, .int .i64 c.he, .int .i64 c.ke, .int .i64 c.ev, .int .i64 c.la, .slice (some ⟨g, 0, none⟩) l.length cap, .int .i64 0, .int .i64 0, .int .i64 0, .int .u64 0, .int .u64 0, .int .u64 0, .bool false] 50) := hid (((Blk.new w1 #[.int .i64 c.th, .int .i64 c.sl, .int .i64 c.cp, .int .i64 c.he, .int .i64 c.ke, .int .i64 c.ev, .int .i64 c.la, .slice (some ⟨g, 0, none⟩) l.length cap, .int .i64 0, .int .i64 0, .int .i64 0, .int .u64 0, .int .u64 0, .int .u64 0, .bool false] 50).alloc _).alloc _)
  have HB : Hid (Blk (((w1.alloc (.cells #[.int .i64 c.th, .int .i64 c.sl, .int .i64 c.cp, .int .i64 c.he, .int .i64 c.ke, .int .i64 c.ev, .int .i64 c.la, .slice (some ⟨g, 0, none⟩) l.length cap, .int .i64 0, .int .i64 0, .int .i64 0, .int .u64 0, .int .u64 0, .int .u64 0, .bool false] 50)).alloc (.cells (helpRow (HS.new h)) 98)).alloc (.cells #[.int .u64 h, .int .i64 0, .int .i64 0, .int .u64 0, .bool false] 84)) (w1.heap.size + 1 + 1) #[.int .u64 h, .int .i64 0, .int .i64 0, .int .u64 0, .bool false] 84) := hid (Blk.new' (by simp))
  generalize (((w1.alloc (.cells #[.int .i64 c.th, .int .i64 c.sl, .int .i64 c.cp, .int .i64 c.he, .int .i64 c.ke, .int .i64 c.ev, .int .i64 c.la, .slice (some ⟨g, 0, none⟩) l.length cap, .int .i64 0, .int .i64 0, .int .i64 0, .int .u64 0, .int .u64 0, .int .u64 0, .bool false] 50)).alloc (.cells (helpRow (HS.new h)) 98)).alloc (.cells #[.int .u64 h, .int .i64 0, .int .i64 0, .int .u64 0, .bool false] 84)) = W at *
  have xbl := HB.out.lt
  have s0 := G0.out.size
  generalize exr : w1.heap.size = xr at *
  generalize exa : xr + 1 = xa at *
  generalize exb : xa + 1 = xb at *
  have XS : Hid ((w.heap.size < xz ∧ xz < m ∧ xz < p ∧ xz < q ∧ m < xr ∧ p < xr ∧ q < xr) ∧ xr < xa ∧ xa < xb ∧ xb < W.heap.size ∧ w.heap.size ≤ w0.heap.size) := hid (by have := SS.out; have := XZ.out; exact ⟨⟨by omega, by omega, by omega, by omega, by omega, by omega, by omega⟩, by omega, by omega, xbl, s0⟩)
  have IN0 : Hid (Sin w m p q xa xr xb xz c l.length #[.int .u64 h, .int .i64 st, .slice Ap ps.length capp] (HS.new h) ⟨l, 0, Acc.zero⟩ ⟨h, 0, 0, 0, false⟩ (.slice (some ⟨g, 0, none⟩) l.length cap) W) := hid ⟨HA.out, M1.out.gr GW.out, ⟨_, _, rfl, HR.out⟩, HB.out, BZ.out.gr GW.out, WR.out.gr GW.out, (fun a n cc e => by
    cases e
    have hgp := GP.out
    have hxs := XS.out
    refine ⟨hgp.1.2.1, hgp.1.2.2, ?_, ?_, ?_⟩
    · show g ≠ xa; omega
    · show g ≠ xr; omega
    · show g ≠ xb; omega), ⟨rfl, rfl, (fun _ => rfl), (fun e => by cases e), (fun e => by cases e)⟩, new_fit hh, HU.out, rfl, Gr.trans G1.out GW.out⟩
  clear exr exa exb xbl s0 HA HR HB BZ M1 WR GW SS GP
  go_loopw [51] (fun i wr => ∃ (n : Nat) (H : HS) (B : Bk) (R : RHS) (s : Value), n ≤ 0 ∧ i = .int .i64 (n : Int) ∧ Sin w m p q xa xr xb xz c l.length #[.int .u64 h, .int .i64 st, .slice Ap ps.length capp] H B R s wr) (fun i _ => 0 - (intOf i).toNat)
  case atStart => exact ⟨0, HS.new h, ⟨l, 0, Acc.zero⟩, ⟨h, 0, 0, 0, false⟩, _, Nat.zero_le _, rfl, IN0.out⟩
  case round =>
    obtain ⟨n, H, B, R, s, hn, rfl, hin⟩ := hrel
    have SI := hid hin
    clear hin
    by_cases hlt : n < 0
    · omega
    · have hge : ¬ (n : Int) < (0 : Nat) := by omega
      have hge' : ¬ (n : Int) < 0 := by omega
      go_wp2_with fail
      refine (halive _).mono ?_
      rintro e u8 ⟨rfl, g8⟩
      go_wp2_with fail
      go_ret
      exact ⟨rfl, Gr.trans SI.out.gr g8⟩

set_option maxRecDepth 100000 in
set_option maxHeartbeats 8000000 in
theorem steps_pos (c : Cf) (v : Value) (l : List Int) (w : World) (hw : Words w v l) (hu : ∀ x ∈ l, U64 x) (h : Int) (hh : U64 h) (st : Int) (Ap : Option Addr) (capp : Nat) (ps : List P3) (hp : PkRow w Ap ps) (hpu : ∀ x ∈ ps, U64 x.v) (hth : There c l) (hst : ¬ 200 < st) (hps : ¬ 30 < ps.length) (M : Nat) (hM : st = (M : Int)) (hpos : 0 < M) :
    Calls Try.prog 13 #[.agg #[.int .i64 c.th, .int .i64 c.sl, .int .i64 c.cp, .int .i64 c.he, .int .i64 c.ke, .int .i64 c.ev, .int .i64 c.la], v, .agg #[.int .u64 h, .int .i64 st, .slice Ap ps.length capp]] w fun e w' => e = .returned (.bool true) ∧ Gr w w' := by
  subst hM
  have hmp : 0 < (M : Int) := by omega
  have hd : decide (200 < (M : Int)) = false := decide_eq_false hst
  have hd2 : decide (30 < (ps.length : Int)) = false := decide_eq_false (by omega)
  have hpos0 : 0 < l.length := by have := (cells_pos c).2 hth.1; have := hth.2.1; omega
  have HPOS := hid hpos0
  have HTH := hid hth
  have HP := hid hp
  have HPU := hid hpu
  have HU := hid hu
  clear hp hpu hu hpos0
  have hl := fun w hw => lof_yes c v l w hw hth
  unfold Cf.val MadeBoth refMem Acc.zero at hl
  have HL := hid hl
  have HW := hid hw
  clear hl hw
  go_enter Try.func13, Try.ntmps13
  go_wp2_with fail
  have G0 := hid (((Gr.refl w).alloc (.cells #[.int .i64 c.th, .int .i64 c.sl, .int .i64 c.cp, .int .i64 c.he, .int .i64 c.ke, .int .i64 c.ev, .int .i64 c.la] 23)).alloc (.cells #[.int .u64 h, .int .i64 (M : Int), .slice Ap ps.length capp] 82))
  have AZ : Hid (Blk ((w.alloc (.cells #[.int .i64 c.th, .int .i64 c.sl, .int .i64 c.cp, .int .i64 c.he, .int .i64 c.ke, .int .i64 c.ev, .int .i64 c.la] 23)).alloc (.cells #[.int .u64 h, .int .i64 (M : Int), .slice Ap ps.length capp] 82)) (w.heap.size + 1) #[.int .u64 h, .int .i64 (M : Int), .slice Ap ps.length capp] 82) := hid (Blk.new' (by simp))
  generalize ((w.alloc (.cells #[.int .i64 c.th, .int .i64 c.sl, .int .i64 c.cp, .int .i64 c.he, .int .i64 c.ke, .int .i64 c.ev, .int .i64 c.la] 23)).alloc (.cells #[.int .u64 h, .int .i64 (M : Int), .slice Ap ps.length capp] 82)) = w0 at *
  have hxz : w.heap.size + 1 < w0.heap.size := AZ.out.lt
  generalize exz : w.heap.size + 1 = xz at *
  have XZ : Hid (w.heap.size < xz ∧ xz < w0.heap.size) := hid ⟨by omega, hxz⟩
  clear hxz exz
  refine (HL.out _ (HW.out.gr G0.out)).mono ?_
  rintro e w1 ⟨m, p, q, g, cap, rfl, hm, hwr, g1, ⟨sm, sp, sq, sg⟩, hapart, hglt⟩
  have BZ := hid (Blk.gr AZ.out g1)
  have G1 := hid (Gr.trans G0.out g1)
  have M1 := hid hm
  have WR := hid hwr
  have SS : Hid (w0.heap.size ≤ m ∧ w0.heap.size ≤ p ∧ w0.heap.size ≤ q ∧ m < w1.heap.size ∧ p < w1.heap.size ∧ q < w1.heap.size) := hid ⟨sm, sp, sq, hm.mem.lt, hm.bank.head.lt, hm.bank.row.lt⟩
  have GP := hid (⟨hapart, hglt⟩ : _ ∧ _)
  clear g1 hm hwr sm sp sq sg hapart hglt
  obtain ⟨z0, z1, z2⟩ := cells3 (BZ.out)
  have zl := BZ.out.lt
  go_wp2_with fail
  refine (hnew_any h _).mono ?_
  rintro e w2 ⟨rfl, rfl⟩
  have zl1 : xz < w1.heap.size + 1 := by omega
  have zl2 : xz < w1.heap.size + 1 + 1 := by omega
  have zl3 : xz < w1.heap.size + 1 + 1 + 1 := by omega
  go_wp2_with fail
  clear z0 z1 z2 zl zl1 zl2 zl3
  have GW : Hid (Gr w1 (((w1.alloc (.cells #[.int .i64 c.th, .int .i64 c.sl, .int .i64 c.cp, .int .i64 c.he, .int .i64 c.ke, .int .i64 c.ev, .int .i64 c.la, .slice (some ⟨g, 0, none⟩) l.length cap, .int .i64 0, .int .i64 0, .int .i64 0, .int .u64 0, .int .u64 0, .int .u64 0, .bool false] 50)).alloc (.cells (helpRow (HS.new h)) 98)).alloc (.cells #[.int .u64 h, .int .i64 0, .int .i64 0, .int .u64 0, .bool false] 84))) := hid ((((Gr.refl w1).alloc (.cells #[.int .i64 c.th, .int .i64 c.sl, .int .i64 c.cp, .int .i64 c.he, .int .i64 c.ke, .int .i64 c.ev, .int .i64 c.la, .slice (some ⟨g, 0, none⟩) l.length cap, .int .i64 0, .int .i64 0, .int .i64 0, .int .u64 0, .int .u64 0, .int .u64 0, .bool false] 50)).alloc (.cells (helpRow (HS.new h)) 98)).alloc (.cells #[.int .u64 h, .int .i64 0, .int .i64 0, .int .u64 0, .bool false] 84))
  have HA : Hid (Blk (((w1.alloc (.cells #[.int .i64 c.th, .int .i64 c.sl, .int .i64 c.cp, .int .i64 c.he, .int .i64 c.ke, .int .i64 c.ev, .int .i64 c.la, .slice (some ⟨g, 0, none⟩) l.length cap, .int .i64 0, .int .i64 0, .int .i64 0, .int .u64 0, .int .u64 0, .int .u64 0, .bool false] 50)).alloc (.cells (helpRow (HS.new h)) 98)).alloc (.cells #[.int .u64 h, .int .i64 0, .int .i64 0, .int .u64 0, .bool false] 84)) (w1.heap.size + 1) (helpRow (HS.new h)) 98) := hid ((Blk.new' (by simp)).alloc _)
  have HR : Hid (Blk (((w1.alloc (.cells #[.int .i64 c.th, .int .i64 c.sl, .int .i64 c.cp, .int .i64 c.he, .int .i64 c.ke, .int .i64 c.ev, .int .i64 c.la, .slice (some ⟨g, 0, none⟩) l.length cap, .int .i64 0, .int .i64 0, .int .i64 0, .int .u64 0, .int .u64 0, .int .u64 0, .bool false] 50)).alloc (.cells (helpRow (HS.new h)) 98)).alloc (.cells #[.int .u64 h, .int .i64 0, .int .i64 0, .int .u64 0, .bool false] 84)) w1.heap.size #[.int .i64 c.th, .int .i64 c.sl, .int .i64 c.cp, .int .i64 c.he, .int .i64 c.ke, .int .i64 c.ev, .int .i64 c.la, .slice (some ⟨g, 0, none⟩) l.length cap, .int .i64 0, .int .i64 0, .int .i64 0, .int .u64 0, .int .u64 0, .int .u64 0, .bool false] 50) := hid (((Blk.new w1 #[.int .i64 c.th, .int .i64 c.sl, .int .i64 c.cp, .int .i64 c.he, .int .i64 c.ke, .int .i64 c.ev, .int .i64 c.la, .slice (some ⟨g, 0, none⟩) l.length cap, .int .i64 0, .int .i64 0, .int .i64 0, .int .u64 0, .int .u64 0, .int .u64 0, .bool false] 50).alloc _).alloc _)
  have HB : Hid (Blk (((w1.alloc (.cells #[.int .i64 c.th, .int .i64 c.sl, .int .i64 c.cp, .int .i64 c.he, .int .i64 c.ke, .int .i64 c.ev, .int .i64 c.la, .slice (some ⟨g, 0, none⟩) l.length cap, .int .i64 0, .int .i64 0, .int .i64 0, .int .u64 0, .int .u64 0, .int .u64 0, .bool false] 50)).alloc (.cells (helpRow (HS.new h)) 98)).alloc (.cells #[.int .u64 h, .int .i64 0, .int .i64 0, .int .u64 0, .bool false] 84)) (w1.heap.size + 1 + 1) #[.int .u64 h, .int .i64 0, .int .i64 0, .int .u64 0, .bool false] 84) := hid (Blk.new' (by simp))
  generalize (((w1.alloc (.cells #[.int .i64 c.th, .int .i64 c.sl, .int .i64 c.cp, .int .i64 c.he, .int .i64 c.ke, .int .i64 c.ev, .int .i64 c.la, .slice (some ⟨g, 0, none⟩) l.length cap, .int .i64 0, .int .i64 0, .int .i64 0, .int .u64 0, .int .u64 0, .int .u64 0, .bool false] 50)).alloc (.cells (helpRow (HS.new h)) 98)).alloc (.cells #[.int .u64 h, .int .i64 0, .int .i64 0, .int .u64 0, .bool false] 84)) = W at *
  have xbl := HB.out.lt
  have s0 := G0.out.size
  generalize exr : w1.heap.size = xr at *
  generalize exa : xr + 1 = xa at *
  generalize exb : xa + 1 = xb at *
  have XS : Hid ((w.heap.size < xz ∧ xz < m ∧ xz < p ∧ xz < q ∧ m < xr ∧ p < xr ∧ q < xr) ∧ xr < xa ∧ xa < xb ∧ xb < W.heap.size ∧ w.heap.size ≤ w0.heap.size) := hid (by have := SS.out; have := XZ.out; exact ⟨⟨by omega, by omega, by omega, by omega, by omega, by omega, by omega⟩, by omega, by omega, xbl, s0⟩)
  have IN0 : Hid (Sin w m p q xa xr xb xz c l.length #[.int .u64 h, .int .i64 (M : Int), .slice Ap ps.length capp] (HS.new h) ⟨l, 0, Acc.zero⟩ ⟨h, 0, 0, 0, false⟩ (.slice (some ⟨g, 0, none⟩) l.length cap) W) := hid ⟨HA.out, M1.out.gr GW.out, ⟨_, _, rfl, HR.out⟩, HB.out, BZ.out.gr GW.out, WR.out.gr GW.out, (fun a n cc e => by
    cases e
    have hgp := GP.out
    have hxs := XS.out
    refine ⟨hgp.1.2.1, hgp.1.2.2, ?_, ?_, ?_⟩
    · show g ≠ xa; omega
    · show g ≠ xr; omega
    · show g ≠ xb; omega), ⟨rfl, rfl, (fun _ => rfl), (fun e => by cases e), (fun e => by cases e)⟩, new_fit hh, HU.out, rfl, Gr.trans G1.out GW.out⟩
  clear exr exa exb xbl s0 HA HR HB BZ M1 WR GW SS GP
  go_loopw [51] (fun i wr => ∃ (n : Nat) (H : HS) (B : Bk) (R : RHS) (s : Value), n ≤ M ∧ i = .int .i64 (n : Int) ∧ Sin w m p q xa xr xb xz c l.length #[.int .u64 h, .int .i64 (M : Int), .slice Ap ps.length capp] H B R s wr) (fun i _ => M - (intOf i).toNat)
  case atStart => exact ⟨0, HS.new h, ⟨l, 0, Acc.zero⟩, ⟨h, 0, 0, 0, false⟩, _, Nat.zero_le _, rfl, IN0.out⟩
  case round =>
    obtain ⟨n, H, B, R, s, hn, rfl, hin⟩ := hrel
    have SI := hid hin
    clear hin
    by_cases hlt : n < M
    · have hlt' : (n : Int) < M := by omega
      have hn0 : 0 ≤ (n : Int) := by omega
      obtain ⟨A1, cap1, rfl, hr1⟩ := SI.out.r
      have XR := hid hr1
      clear hr1
      have hne : B.cells ≠ [] := by intro h0; have := SI.out.len; have := HPOS.out; rw [h0] at *; simp at *; omega
      have NE := hid hne
      have L4 : Hid (B.cells.length ≤ 400) := hid (by have := SI.out.len; have := HTH.out.2.2; omega)
      have hpa : ∀ a, Ap = some a → 0 < ps.length → a.block < w.heap.size := by
        intro a e h0
        obtain ⟨a', e', c0, _⟩ := HP.out 0 h0
        rw [e] at e'; cases e'
        have := lt_of_cell c0
        rwa [add_block] at this
      have pk := hid (poked_any m p q c B _ wr SI.out.mem SI.out.wd SI.out.words (fun a n cc e => ⟨(SI.out.away a n cc e).1, (SI.out.away a n cc e).2.1⟩) hne L4.out Ap capp ps (HP.out.chg (F := fun _ => False) SI.out.gr.chg (fun _ _ _ h => h)) (fun a e h0 => by have := hpa a e h0; have := XS.out; exact ⟨by omega, by omega⟩) HPU.out (by omega) (n : Int))
      unfold mval Poked mval at pk
      clear hpa hne
      obtain ⟨z0, z1, z2⟩ := cells3 (SI.out.z)
      obtain ⟨u0, u1, u2, u3, u4, u5, u6, u7, u8, u9, u10, u11, u12, u13, u14⟩ := cells15 (XR.out)
      go_wp2_with fail
      refine pk.out.mono ?_
      rintro e w2 ⟨B1, s1, fr, rfl, m2, ww2, aw2, wd2, ln2, g2⟩
      obtain ⟨A2, cap2, rfl⟩ := ww2.slice
      clear pk z0 z1 z2 u0 u1 u2 u3 u4 u5 u6 u7 u8 u9 u10 u11 u12 u13 u14
      have aw := hid (away_fresh (F := fun k => k = p ∨ k = q ∨ k = xa ∨ k = xr ∨ k = xb) fr (fun a n cc e hk => by have := SI.out.away a n cc e; omega) (fun k hk => by have := SI.out.b.lt; have := XS.out; omega))
      have two : ∀ y, xz ≤ y → y ≠ p → y ≠ q → ¬ Two p q y := fun y _ h1 h2 h3 => h3.elim h1 h2
      have TWO := hid two
      have L2 : Hid (B1.cells.length = l.length) := hid (ln2.trans SI.out.len)
      have HA2 := hid (Blk.chg SI.out.help g2 (by have := XS.out; exact TWO.out _ (by omega) (by omega) (by omega)))
      have XR2 := hid (Blk.chg XR.out g2 (by have := XS.out; exact TWO.out _ (by omega) (by omega) (by omega)))
      have XB2 := hid (Blk.chg SI.out.b g2 (by have := XS.out; exact TWO.out _ (by omega) (by omega) (by omega)))
      have XZ2 := hid (Blk.chg SI.out.z g2 (by have := XS.out; exact TWO.out _ (by omega) (by omega) (by omega)))
      have GG2 := hid (Gr.step SI.out.gr g2 (fun k hk => by have := XS.out; rcases hk with hk | hk <;> omega))
      have MM2 := hid m2
      have WW2 := hid ww2
      have WD2 := hid wd2
      clear fr m2 ww2 aw2 wd2 ln2 g2 two
      obtain ⟨q0, q1, q2, q3, q4, q5, q6, q7, q8, q9, q10, q11, q12, q13, q14⟩ := cells15 (XR2.out)
      have ql := XR2.out.lt
      have qf := fun i => Blk.free XR2.out i
      go_wp2_with fail
      clear q0 q1 q2 q3 q4 q5 q6 q7 q8 q9 q10 q11 q12 q13 q14 ql qf
      refine calls_gen (fun W => Sin w m p q xa xr xb xz c l.length #[.int .u64 h, .int .i64 (M : Int), .slice Ap ps.length capp] H B1 R (.slice A2 B1.cells.length cap2) W) ?_ ?_
      · have HC := chg_put15 w2 xr (.int .i64 c.th) (.int .i64 c.sl) (.int .i64 c.cp) (.int .i64 c.he) (.int .i64 c.ke) (.int .i64 c.ev) (.int .i64 c.la) (.slice A2 B1.cells.length cap2) (.int .i64 B1.count) (.int .i64 B1.last.kind) (.int .i64 B1.last.cell) (.int .u64 B1.last.via) (.int .u64 B1.last.old) (.int .u64 B1.last.new) (.bool B1.last.done)
        exact ⟨Blk.chg HA2.out HC (by have := XS.out; omega), MM2.out.chg HC (by have := XS.out; omega) (by have := XS.out; omega) (by have := XS.out; omega), ⟨A2, cap2, rfl, blk_put15 XR2.out (.int .i64 c.th) (.int .i64 c.sl) (.int .i64 c.cp) (.int .i64 c.he) (.int .i64 c.ke) (.int .i64 c.ev) (.int .i64 c.la) (.slice A2 B1.cells.length cap2) (.int .i64 B1.count) (.int .i64 B1.last.kind) (.int .i64 B1.last.cell) (.int .u64 B1.last.via) (.int .u64 B1.last.old) (.int .u64 B1.last.new) (.bool B1.last.done)⟩, Blk.chg XB2.out HC (by have := XS.out; omega), Blk.chg XZ2.out HC (by have := XS.out; omega), WW2.out.keep HC (fun a n cc e _ hk => aw.out a n cc e (by simp [hk])), (fun a n cc e => by have := aw.out a n cc e; simp only [not_or] at this; exact this), SI.out.rh, SI.out.fit, WD2.out, L2.out, GG2.out.step HC (by rintro i rfl; have := XS.out; omega)⟩
      intro W3 hs3
      have S3 := hid hs3
      clear hs3 aw HA2 XR2 XB2 XZ2 GG2 MM2 WW2 WD2
      have ne1 : B1.cells ≠ [] := by intro h0; have := L2.out; have := HPOS.out; rw [h0] at *; simp at *; omega
      have l41 : B1.cells.length ≤ 400 := by have := L2.out; have := HTH.out.2.2; omega
      refine (hstep_any xa m p q c HTH.out.1 H B1 W3 S3.out.help S3.out.mem (by have := XS.out; omega) (by have := XS.out; omega) (by have := XS.out; omega) S3.out.fit S3.out.wd).mono ?_
      rintro e w4 ⟨rfl, h4, m4, g4⟩
      obtain ⟨A9, cap9, e9, hr9⟩ := S3.out.r
      cases e9
      have tri : ∀ y, y ≠ xa → y ≠ p → y ≠ q → ¬ Tri xa p q y := fun y h1 h2 h3 h4 => by unfold Tri at h4; omega
      have XR4 := hid (Blk.chg hr9 g4 (tri _ (by have := XS.out; omega) (by have := XS.out; omega) (by have := XS.out; omega)))
      have XB4 := hid (Blk.chg S3.out.b g4 (tri _ (by have := XS.out; omega) (by have := XS.out; omega) (by have := XS.out; omega)))
      have XZ4 := hid (Blk.chg S3.out.z g4 (tri _ (by have := XS.out; omega) (by have := XS.out; omega) (by have := XS.out; omega)))
      have WW4 := hid (S3.out.words.keep g4 (fun a n cc e _ hk => by have := S3.out.away a n cc e; unfold Tri at hk; omega))
      have GG4 := hid (S3.out.gr.step g4 (fun k hk => by have := XS.out; unfold Tri at hk; omega))
      have FIT := hid (step_fit c HTH.out.1 S3.out.fit S3.out.wd)
      have WD := hid (step_wd c S3.out.fit S3.out.wd)
      have LEN : Hid ((H.step c B1).2.cells.length = l.length) := hid (by rw [step_len]; exact L2.out)
      have rs := hid (rstep_any c HTH.out.1 H B1 R (.slice A2 B1.cells.length cap2) w4 S3.out.rh S3.out.fit S3.out.wd WW4.out ne1 l41)
      unfold RHS.val mval at rs
      have H4 := hid h4
      have M4 := hid m4
      clear h4 m4 g4 hr9 tri ne1 l41
      generalize (H.step c B1).1 = H1 at *
      generalize (H.step c B1).2 = B2 at *
      obtain ⟨u0, u1, u2, u3, u4, u5, u6, u7, u8, u9, u10, u11, u12, u13, u14⟩ := cells15 (XR4.out)
      obtain ⟨b0, b1, b2, b3, b4⟩ := cells5 (XB4.out)
      go_wp2_with fail
      refine rs.out.mono ?_
      rintro e w5 ⟨R1, s2, rfl, rh1, ww5, g5, fr5⟩
      obtain ⟨A3, cap3, rfl⟩ := ww5.slice
      clear rs u0 u1 u2 u3 u4 u5 u6 u7 u8 u9 u10 u11 u12 u13 u14 b0 b1 b2 b3 b4
      have aw5 := hid (away_fresh (F := fun k => k = p ∨ k = q ∨ k = xa ∨ k = xr ∨ k = xb) fr5 (fun a n cc e hk => by have := S3.out.away a n cc e; omega) (fun k hk => by have := XB4.out.lt; have := XS.out; omega))
      have XR5 := hid (Blk.gr XR4.out g5)
      have XB5 := hid (Blk.gr XB4.out g5)
      have XZ5 := hid (Blk.gr XZ4.out g5)
      have H5 := hid (Blk.gr H4.out g5)
      have M5 := hid (M4.out.gr g5)
      have GG5 := hid (Gr.trans GG4.out g5)
      have WW5 := hid ww5
      have RH5 := hid rh1
      clear ww5 g5 fr5 rh1 XR4 XB4 XZ4 H4 M4 WW4 GG4
      obtain ⟨q0, q1, q2, q3, q4, q5, q6, q7, q8, q9, q10, q11, q12, q13, q14⟩ := cells15 (XR5.out)
      obtain ⟨b0, b1, b2, b3, b4⟩ := cells5 (XB5.out)
      have ql := XR5.out.lt
      have qf := fun i => Blk.free XR5.out i
      have bl := XB5.out.lt
      have bf := fun i => Blk.free XB5.out i
      have nx1 : xr ≠ xb := by have := XS.out; omega
      have nx2 : xb ≠ xr := by have := XS.out; omega
      go_wp2_with fail
      clear q0 q1 q2 q3 q4 q5 q6 q7 q8 q9 q10 q11 q12 q13 q14 ql qf b0 b1 b2 b3 b4 bl bf nx1 nx2
      refine wp_gen (fun W => Sin w m p q xa xr xb xz c l.length #[.int .u64 h, .int .i64 (M : Int), .slice Ap ps.length capp] H1 B2 R1 (.slice A3 B2.cells.length cap3) W) ?_ ?_
      · have HC1 := chg_put5 w5 xb (.int .u64 R1.h) (.int .i64 R1.nx) (.int .i64 R1.lv) (.int .u64 R1.s) (.bool R1.dn)
        have HC := HC1.either (chg_put15 _ xr (.int .i64 c.th) (.int .i64 c.sl) (.int .i64 c.cp) (.int .i64 c.he) (.int .i64 c.ke) (.int .i64 c.ev) (.int .i64 c.la) (.slice A3 B2.cells.length cap3) (.int .i64 B2.count) (.int .i64 B2.last.kind) (.int .i64 B2.last.cell) (.int .u64 B2.last.via) (.int .u64 B2.last.old) (.int .u64 B2.last.new) (.bool B2.last.done))
        exact ⟨Blk.chg H5.out HC (by have := XS.out; omega), M5.out.chg HC (by have := XS.out; omega) (by have := XS.out; omega) (by have := XS.out; omega), ⟨A3, cap3, rfl, blk_put15 (Blk.chg XR5.out HC1 (by have := XS.out; omega)) (.int .i64 c.th) (.int .i64 c.sl) (.int .i64 c.cp) (.int .i64 c.he) (.int .i64 c.ke) (.int .i64 c.ev) (.int .i64 c.la) (.slice A3 B2.cells.length cap3) (.int .i64 B2.count) (.int .i64 B2.last.kind) (.int .i64 B2.last.cell) (.int .u64 B2.last.via) (.int .u64 B2.last.old) (.int .u64 B2.last.new) (.bool B2.last.done)⟩, Blk.chg (blk_put5 XB5.out (.int .u64 R1.h) (.int .i64 R1.nx) (.int .i64 R1.lv) (.int .u64 R1.s) (.bool R1.dn)) (chg_put15 _ xr (.int .i64 c.th) (.int .i64 c.sl) (.int .i64 c.cp) (.int .i64 c.he) (.int .i64 c.ke) (.int .i64 c.ev) (.int .i64 c.la) (.slice A3 B2.cells.length cap3) (.int .i64 B2.count) (.int .i64 B2.last.kind) (.int .i64 B2.last.cell) (.int .u64 B2.last.via) (.int .u64 B2.last.old) (.int .u64 B2.last.new) (.bool B2.last.done)) (by have := XS.out; omega), Blk.chg XZ5.out HC (by have := XS.out; omega), WW5.out.keep HC (fun a n cc e _ hk => aw5.out a n cc e (by rcases hk with hk | hk <;> simp [hk])), (fun a n cc e => by have := aw5.out a n cc e; simp only [not_or] at this; exact this), RH5.out, FIT.out, WD.out, LEN.out, GG5.out.step HC (by intro i hk; have := XS.out; rcases hk with hk | hk <;> omega)⟩
      intro W6 hs6
      have S6 := hid hs6
      clear hs6 S3 aw5 H5 M5 XR5 XB5 XZ5 GG5 WW5 RH5 FIT WD
      have l42 : Hid (B2.cells.length ≤ 400) := hid (by have := LEN.out; have := HTH.out.2.2; omega)
      refine wp_region_anyC (n := 11) (Gr W6) (by kernel_rfl) rfl ?_
      have CD := hid ((Gr.refl W6).drew)
      generalize W6.drew = wd at *
      refine anyC_quiet (a1 := ?a4) (by kernel_rfl) 9 [0, 1] _ _ _ (by kernel_rfl) (by kernel_rfl) CD.out ?_ ?_
      rotate_left
      · intro w' g'
        have hne : Nonempty (St (· = w')) := ⟨⟨w', rfl⟩⟩
        obtain ⟨A8, cap8, e8, hr8⟩ := S6.out.r
        cases e8
        have X3 := hr8.gr g'
        obtain ⟨u0, u1, u2, u3, u4, u5, u6, u7, u8, u9, u10, u11, u12, u13, u14⟩ := st15 (X3)
        clear X3
        clear hr8
        clear g'
        conv => arg 5; simp only [picked, List.filterMap_cons, List.filterMap_nil, List.getElem?_toArray, List.getElem?_cons_zero, List.getElem?_cons_succ]
        show wpQuiet _ _ _ _ [_, _] _
        repeat (go_big_quiet_step (fail))
        refine wpQuiet_nil ?_
        rfl
      refine anyC_alone 2 CD.out (by kernel_rfl) (by kernel_rfl) ?_
      conv => arg 4; simp only [picked, List.filterMap_cons, List.filterMap_nil, List.getElem?_toArray, List.getElem?_cons_zero, List.getElem?_cons_succ]
      show wpList _ _ _ [_] _ _
      have sm := hid (fun w hm hw => same_any m p q c (.slice A3 B2.cells.length cap3) B2 w hm hw l42.out)
      unfold mval at sm
      go_wp2_with fail
      refine (sm.out _ (S6.out.mem.gr CD.out) (S6.out.words.gr CD.out)).mono ?_
      rintro e w7 ⟨rfl, g7⟩
      have C7 := hid (Gr.trans CD.out g7)
      clear g7 sm
      go_wp2_with fail
      refine ⟨C7.out, ?_⟩
      refine anyC_quiet (a1 := ?a5) (by kernel_rfl) 3 [3, 4, 5, 7, 8] _ _ _ (by kernel_rfl) (by kernel_rfl) C7.out ?_ ?_
      rotate_left
      · intro w' g'
        have hne : Nonempty (St (· = w')) := ⟨⟨w', rfl⟩⟩
        have X3 := S6.out.b.gr g'
        obtain ⟨b0, b1, b2, b3, b4⟩ := st5 (X3)
        clear X3
        clear g'
        conv => arg 5; simp only [picked, List.filterMap_cons, List.filterMap_nil, List.getElem?_toArray, List.getElem?_cons_zero, List.getElem?_cons_succ]
        show wpQuiet _ _ _ _ [_, _, _, _, _] _
        repeat (go_big_quiet_step (fail))
        refine wpQuiet_nil ?_
        rfl
      refine anyC_alone 6 C7.out (by kernel_rfl) (by kernel_rfl) ?_
      conv => arg 4; simp only [picked, List.filterMap_cons, List.filterMap_nil, List.getElem?_toArray, List.getElem?_cons_zero, List.getElem?_cons_succ]
      show wpList _ _ _ [_] _ _
      go_wp2_with fail
      refine (hdone_any xa H1 _ (Blk.gr S6.out.help C7.out) R1.dn S6.out.rh.dn).mono ?_
      rintro e w8 ⟨rfl, rfl⟩
      have hbn : (R1.dn != R1.dn) = false := by simp
      go_wp2_with fail
      refine ⟨C7.out, ?_⟩
      refine anyC_quiet (a1 := ?a6) (by kernel_rfl) 0 [9, 10] _ _ _ (by kernel_rfl) (by kernel_rfl) C7.out ?_ ?_
      rotate_left
      · intro w' g'
        have hne : Nonempty (St (· = w')) := ⟨⟨w', rfl⟩⟩
        clear g'
        conv => arg 5; simp only [picked, List.filterMap_cons, List.filterMap_nil, List.getElem?_toArray, List.getElem?_cons_zero, List.getElem?_cons_succ]
        show wpQuiet _ _ _ _ [_, _] _
        repeat (go_big_quiet_step (fail))
        refine wpQuiet_nil ?_
        rfl
      refine ⟨by kernel_rfl, ?_⟩
      have I7 := hid (S6.out.step C7.out)
      go_wp2_with fail
      go_roundw
      case rel => exact ⟨n + 1, H1, B2, R1, _, by omega, by go_num, I7.out⟩
      case measure => exact sin_meas hlt
    · have hge : ¬ (n : Int) < (M : Nat) := by omega
      have hge' : ¬ (n : Int) < (M : Int) := by omega
      go_wp2_with fail
      refine (halive _).mono ?_
      rintro e u8 ⟨rfl, g8⟩
      go_wp2_with fail
      go_ret
      exact ⟨rfl, Gr.trans SI.out.gr g8⟩

theorem add_at {w : World} {a : Addr} {n k : Nat} {v : Value} (hk : 0 < k) (h : w.cell? (a.add (n + k)) = some v) : w.cell? ⟨(a.add n).block, (a.add n).off + k, none⟩ = some v := by
  rw [← Go.Deep.add_add] at h
  have h2 : (a.add n).add k = ⟨(a.add n).block, (a.add n).off + k, none⟩ := by
    simp [Addr.add, Nat.pos_iff_ne_zero.1 hk]
  rw [h2] at h
  exact h
section
open Go.ChangeShapes Go.WideShapes Go.ChangeAt Go.Joins Go.Deep
section
variable {H : Type} {enc : TypeId × Value → H} {P : Program} {w : World} {base : Nat} {spare : Nat → Bool} {held : Bool}
theorem open_slice_fields3 {t e : TypeId} {fs : Array Field} {fuel : Nat} {cs : List Value} {x : DataW H × List MemPlace} (ht : P.underlying t = some (.slice e)) (he : P.underlying e = some (.struct fs))
    (hone : oneCellFields P fs = true) (hC : P.cellsOf e = fs.size) (h : DataW.trod enc P w base spare held fuel t cs = some x) :
    (cs = [.slice none 0 0] ∧ x = (.nil, [])) ∨
    ∃ (a : Addr) (len cap m : Nat) (D : Nat → DataW H) (Pl : Nat → List MemPlace), cs = [.slice (some a) len cap] ∧ base ≤ a.block ∧ len ≤ cap ∧ cap ≤ maxLen ∧ m = (if spare a.block then cap else len) ∧
      x = (.slice ((List.range len).map D) ((List.range (m - len)).map fun j => D (len + j)), MemPlace.row a (m * fs.size) ++ (List.range m).flatMap Pl) ∧
      ∀ i, i < m → ∃ (ys : List (DataW H × List MemPlace)) (n : Nat), D i = .agg (ys.map (·.1)) ∧ Pl i = ys.flatMap (·.2) ∧ ys.length = fs.size ∧
        ∀ (j : Nat) (f : Field), fs[j]? = some f → ∃ (v : Value) (y : DataW H × List MemPlace), w.cell? (a.add (i * fs.size + j)) = some v ∧ ys[j]? = some y ∧ DataW.trod enc P w base spare held n f.type [v] = some y := by
  rcases open_slice ht h with h0 | ⟨a, len, cap, m, n, D, Pl, hcs, hb, hl, hm, hmm, hx, hi⟩
  · exact .inl h0
  · refine .inr ⟨a, len, cap, m, D, Pl, hcs, hb, hl, hm, hmm, by rw [hC] at hx; exact hx, fun i him => ?_⟩
    obtain ⟨cs', hc, ht'⟩ := hi i him
    rw [hC] at hc
    obtain ⟨ys, n', hn', hy, hlen, hyl, hf⟩ := DataW.trod_struct he ht'
    obtain ⟨_, hcl, hat⟩ := World.cells?_some hc
    simp only [Prod.mk.injEq] at hy
    refine ⟨ys, n', hy.1, hy.2, hyl, fun j f hj => ?_⟩
    obtain ⟨ho, hk⟩ := hone_of hone j f hj
    have hjl : j < fs.size := (Array.getElem?_eq_some_iff.1 hj).1
    have hcell := hat j hjl
    have hv : cs'[j]? = some (cs'[j]'(by omega)) := List.getElem?_eq_getElem (by omega)
    have h1 := hf j f hj
    rw [ho, hk] at h1
    have hone' : (cs'.drop j).take 1 = [cs'[j]'(by omega)] := by
      rw [List.drop_eq_getElem_cons (by omega)]
      rfl
    rw [hone'] at h1
    have hys : ys[j]? = some (ys[j]'(by omega)) := List.getElem?_eq_getElem (by omega)
    refine ⟨_, _, ?_, hys, h1.trans hys⟩
    rw [← Go.Deep.add_add, hcell, hv]
end


/-- A node, how many steps, and what is written meanwhile. -/
structure Play where
  h : Int
  st : Int
  ps : List P3
def IsPlay (w : World) (z : Value) (P : Play) : Prop := ∃ Ap capp, z = .agg #[.int .u64 P.h, .int .i64 P.st, .slice Ap P.ps.length capp] ∧ U64 P.h ∧ PkRow w Ap P.ps ∧ ∀ x ∈ P.ps, U64 x.v
set_option maxRecDepth 100000 in
theorem open_play {H : Type} {enc : TypeId × Value → H} {w : World} {base b0 : Nat} {held : Bool} {r : Reach} {v : Value} {d : DataW H} {p : List MemPlace}
    (hv : Value.okWide Try.prog w r b0 82 v) (h : DataW.Trod enc Try.prog w base (fun _ => true) held 82 v d p) : ∃ P : Play, IsPlay w v P := by
  obtain ⟨cs, rfl, hl, hg⟩ := open_struct Try.underlying82 (by kernel_rfl) (by kernel_rfl) hv h
  have hl3 : cs.length = 3 := hl
  match cs, hl3 with
  | [c0, c1, c2], _ =>
    obtain ⟨x0, rfl, hx0⟩ := leaf_int Try.underlying40 (hg 0 _ c0 rfl rfl)
    obtain ⟨x1, rfl, hx1⟩ := leaf_int Try.underlying3 (hg 1 _ c1 rfl rfl)
    obtain ⟨mm, y, hm⟩ := hg 2 _ c2 rfl rfl
    rcases open_slice_fields3 Try.underlying80 Try.underlying117 (by kernel_rfl) (by kernel_rfl) hm with ⟨hcs, _⟩ | ⟨a, len, cap, m, D, Pl, hcs, _, hlc, hcm, hmm, _, hi⟩
    · simp only [List.cons.injEq, and_true] at hcs
      subst hcs
      exact ⟨⟨x0, x1, []⟩, none, 0, rfl, u64_of hx0, fun i hi => absurd hi (by simp), by simp⟩
    · simp only [List.cons.injEq, and_true] at hcs
      subst hcs
      have hlm : len ≤ m := by simp only [if_true] at hmm; omega
      have one : ∀ i, ∃ o : P3, i < len → (w.cell? (a.add (i * 3)) = some (.int .i64 o.st) ∧ w.cell? (a.add (i * 3 + 1)) = some (.int .i64 o.cell) ∧ w.cell? (a.add (i * 3 + 2)) = some (.int .u64 o.v)) ∧ U64 o.v := by
        intro i
        by_cases h : i < len
        · obtain ⟨ys, n, _, _, _, hj⟩ := hi i (by omega)
          obtain ⟨v0, y0, c0, _, t0⟩ := hj 0 _ rfl
          obtain ⟨v1, y1, c1, _, t1⟩ := hj 1 _ rfl
          obtain ⟨v2, y2, c2, _, t2⟩ := hj 2 _ rfl
          obtain ⟨x0, rfl, r0⟩ := leaf_int Try.underlying3 ⟨_, _, t0⟩
          obtain ⟨x1, rfl, r1⟩ := leaf_int Try.underlying3 ⟨_, _, t1⟩
          obtain ⟨x2, rfl, r2⟩ := leaf_int Try.underlying40 ⟨_, _, t2⟩
          exact ⟨⟨x0, x1, x2⟩, fun _ => ⟨⟨c0, c1, c2⟩, u64_of r2⟩⟩
        · exact ⟨z3, fun h' => absurd h' h⟩
      obtain ⟨f, hf⟩ := Classical.axiomOfChoice one
      refine ⟨⟨x0, x1, (List.range len).map f⟩, some a, cap, by simp, u64_of hx0, fun i hi => ?_, fun x hx => ?_⟩
      · have hi' : i < len := by simpa using hi
        obtain ⟨⟨c0, c1, c2⟩, _⟩ := hf i hi'
        have e : ((List.range len).map f).getD i z3 = f i := by simp [List.getD, hi']
        refine ⟨a, rfl, ?_, ?_, ?_⟩
        · rw [e]; exact c0
        · rw [e]; exact add_at (by omega) c1
        · rw [e]; exact add_at (by omega) c2
      · simp only [List.mem_map, List.mem_range] at hx
        obtain ⟨j, hj, rfl⟩ := hx
        exact (hf j hj).2
end
theorem helpSteps_at {w : World} (a b c d e f g : Int) (v : Value) (l : List Int) (hw : Words w v l) (hl : l.length ≤ 17592186044416) (hu : ∀ x ∈ l, U64 x) (z : Value) (P : Play) (hz : IsPlay w z P) :
    Calls Try.prog 13 #[.agg #[.int .i64 a, .int .i64 b, .int .i64 c, .int .i64 d, .int .i64 e, .int .i64 f, .int .i64 g], v, z] w fun e w' => e = .returned (.bool true) ∧ Gr w w' := by
  obtain ⟨Ap, capp, rfl, hh, hp, hpu⟩ := hz
  by_cases hth : There (Cf.mk a b c d e f g) l
  · by_cases hst : 200 < P.st
    · exact steps_long (Cf.mk a b c d e f g) v l w hw hu P.h hh P.st Ap capp P.ps hp hpu hth hst
    · by_cases hps : 30 < P.ps.length
      · exact steps_many (Cf.mk a b c d e f g) v l w hw hu P.h hh P.st Ap capp P.ps hp hpu hth hst hps
      · by_cases h0 : P.st ≤ 0
        · exact steps_zero (Cf.mk a b c d e f g) v l w hw hu P.h hh P.st Ap capp P.ps hp hpu hth hst hps h0
        · exact steps_pos (Cf.mk a b c d e f g) v l w hw hu P.h hh P.st Ap capp P.ps hp hpu hth hst hps P.st.toNat (by omega) (by omega)
  · exact steps_none (Cf.mk a b c d e f g) v l w hw hu P.h hh P.st Ap capp P.ps hp hpu hth
end Go.Proofs.YthbkncklliiooaaH
