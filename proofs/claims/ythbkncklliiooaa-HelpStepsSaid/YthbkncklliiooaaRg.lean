/-
  The reference's step of a help.
-/
import Derived.Test.YthbkncklliiooaaRf
namespace Go.Proofs.YthbkncklliiooaaH
set_option linter.unusedVariables false
set_option linter.unusedSimpArgs false
open Go.RowKit Go.Proofs.Ythbkncklliiooaa.Q

/-- The reference's help, as a value. -/
structure RHS where
  h : Int
  nx : Int
  lv : Int
  s : Int
  dn : Bool
def RHS.val (R : RHS) : Value := .agg #[.int .u64 R.h, .int .i64 R.nx, .int .i64 R.lv, .int .u64 R.s, .bool R.dn]
/-- It is the program's help. -/
structure RH (R : RHS) (H : HS) : Prop where
  h : R.h = H.h
  dn : R.dn = decide (H.st = .done)
  tall : H.st = .tall → R.nx = 0
  next : H.st = .next → R.nx = 1 ∧ R.lv = H.lv
  mark : H.st = .mark → R.nx = 2 ∧ R.lv = H.lv ∧ R.s = H.s

theorem rdown_any (h nx lv s : Int) (dn : Bool) (hl0 : 0 ≤ lv) (hl1 : lv ≤ 10) (w : World) : Calls Try.prog 70 #[.agg #[.int .u64 h, .int .i64 nx, .int .i64 lv, .int .u64 s, .bool dn]] w fun e w' => e = .returned (.agg #[.int .u64 h, .int .i64 1, .int .i64 (lv - 1), .int .u64 s, .bool (lv == 0)]) ∧ Gr w w' := by
  refine (stepstoneref12_down.calls h nx lv s dn h 1 (lv - 1) s (lv == 0) w ?_).mono fun e w' hq => ⟨hq.1, by first | exact hq.2 | exact hq.2.below⟩
  unfold stepstoneref12_down.f
  rw [w64 (by omega) (by omega)]

theorem wp_gen {P : Program} {code : Code} {Q : Exit → Act → World → Prop} {a : Act} {w : World} (I : World → Prop) (h : I w) (k : ∀ W, I W → code.wp P Q a W) : code.wp P Q a w := k w h
theorem calls_gen {P : Program} {f : FuncId} {args : Array Value} {Q : Ending → World → Prop} {w : World} (I : World → Prop) (h : I w) (k : ∀ W, I W → Calls P f args W Q) : Calls P f args w Q := k w h
/-- A slice that came back stands in none of the blocks that were made for the call's own. -/
theorem Fresh.nx {w wx : World} {s s1 : Value} {l0 : List Int} (hf : Fresh wx s s1) (hv : Words w s l0) (hn : l0 ≠ []) {hi : Nat} (hh : hi ≤ wx.heap.size) : ∀ a n c, s1 = .slice (some a) n c → ∀ k, w.heap.size ≤ k → k < hi → a.block ≠ k :=
  fun a n c e k h1 h2 => hf.apart (w1 := w) (w0 := w) hv k h1 (by omega) hn a n c e

structure Cls (lo hi : Nat) (w1 : World) (x2 bm : Nat) (r5 r15 : Array Value) (W : World) : Prop where
  x : Blk W x2 r5 84
  m : Blk W bm r15 50
  chg : Chg (fun k => lo ≤ k ∧ k < hi) w1 W
theorem Cls.drew {lo hi : Nat} {w1 : World} {x2 bm : Nat} {r5 r15 : Array Value} {W : World} (h : Cls lo hi w1 x2 bm r5 r15 W) : Cls lo hi w1 x2 bm r5 r15 W.drew := ⟨h.x.drew, h.m.drew, h.chg.drew⟩
theorem Cls.gr {lo hi : Nat} {w1 : World} {x2 bm : Nat} {r5 r15 : Array Value} {W W' : World} (h : Cls lo hi w1 x2 bm r5 r15 W) (g : Gr W W') : Cls lo hi w1 x2 bm r5 r15 W' := ⟨h.x.gr g, h.m.gr g, h.chg.trans g.chg⟩
theorem Cls.put {lo hi : Nat} {w1 : World} {x2 bm : Nat} {r5 r15 : Array Value} {W W' : World} (h : Cls lo hi w1 x2 bm r5 r15 W) {y : Nat} (g : Chg (· = y) W W') (h2 : x2 ≠ y) (hb : bm ≠ y) (h3 : lo ≤ y) (h4 : y < hi) : Cls lo hi w1 x2 bm r5 r15 W' :=
  ⟨h.x.chg g h2, h.m.chg g hb, h.chg.trans (g.mono fun k hk => by subst hk; exact ⟨h3, h4⟩)⟩

/-- What the reference's step leaves. -/
def STold (w : World) (c : Cf) (s : Value) (R : RHS) (B : Bk) (e : Ending) (w' : World) : Prop := ∃ s', e = .returned (.tuple #[R.val, mval c s' B]) ∧ Words w' s' B.cells ∧ Gr w w' ∧ Fresh w s s'

set_option maxHeartbeats 2000000 in
theorem blk_put5 {w : World} {b : Nat} {t : TypeId} {a0 a1 a2 a3 a4 : Value} (h : Blk w b #[a0, a1, a2, a3, a4] t) (v0 v1 v2 v3 v4 : Value) : Blk (((((w.setCell ⟨b, 0, none⟩ (v0)).setCell ⟨b, 1, none⟩ (v1)).setCell ⟨b, 2, none⟩ (v2)).setCell ⟨b, 3, none⟩ (v3)).setCell ⟨b, 4, none⟩ (v4)) b #[v0, v1, v2, v3, v4] t :=
  Blk.of_eq (c := ((((((#[a0, a1, a2, a3, a4] : Array Value).setIfInBounds 0 v0).setIfInBounds 1 v1).setIfInBounds 2 v2).setIfInBounds 3 v3).setIfInBounds 4 v4)) (Blk.set (Blk.set (Blk.set (Blk.set (Blk.set h 0 v0) 1 v1) 2 v2) 3 v3) 4 v4) (by simp)
set_option maxHeartbeats 2000000 in
theorem chg_put5 (w : World) (b : Nat) (v0 v1 v2 v3 v4 : Value) : Chg (· = b) w (((((w.setCell ⟨b, 0, none⟩ (v0)).setCell ⟨b, 1, none⟩ (v1)).setCell ⟨b, 2, none⟩ (v2)).setCell ⟨b, 3, none⟩ (v3)).setCell ⟨b, 4, none⟩ (v4)) := Chg.set1 (Chg.set1 (Chg.set1 (Chg.set1 (Chg.set1 (Chg.refl _ w) 0 v0) 1 v1) 2 v2) 3 v3) 4 v4
theorem res45 (t : Array Value) (x y : Nat) (W : World) (R : RHS) (c : Cf) (s : Value) (B : Bk) (hs : ∃ p n c, s = .slice p n c) (hx : t.getD 4 undef = .pointer (some ⟨x, 0, none⟩)) (hy : t.getD 5 undef = .pointer (some ⟨y, 0, none⟩))
    (bx : Blk W x #[.int .u64 R.h, .int .i64 R.nx, .int .i64 R.lv, .int .u64 R.s, .bool R.dn] 84) (by' : Blk W y #[.int .i64 c.th, .int .i64 c.sl, .int .i64 c.cp, .int .i64 c.he, .int .i64 c.ke, .int .i64 c.ev, .int .i64 c.la, s, .int .i64 B.count, .int .i64 B.last.kind, .int .i64 B.last.cell, .int .u64 B.last.via, .int .u64 B.last.old, .int .u64 B.last.new, .bool B.last.done] 50) :
    (results Try.f45 t).run Try.prog W = .ok (.tuple #[R.val, mval c s B]) W := by
  obtain ⟨p, n, cp, rfl⟩ := hs
  have x0 : W.cell? ⟨x, 0, none⟩ = some (.int .u64 R.h) := bx.cell rfl
  have x1 : W.cell? ⟨x, 1, none⟩ = some (.int .i64 R.nx) := bx.cell rfl
  have x2 : W.cell? ⟨x, 2, none⟩ = some (.int .i64 R.lv) := bx.cell rfl
  have x3 : W.cell? ⟨x, 3, none⟩ = some (.int .u64 R.s) := bx.cell rfl
  have x4 : W.cell? ⟨x, 4, none⟩ = some (.bool R.dn) := bx.cell rfl
  have y0 : W.cell? ⟨y, 0, none⟩ = some (.int .i64 c.th) := by'.cell rfl
  have y1 : W.cell? ⟨y, 1, none⟩ = some (.int .i64 c.sl) := by'.cell rfl
  have y2 : W.cell? ⟨y, 2, none⟩ = some (.int .i64 c.cp) := by'.cell rfl
  have y3 : W.cell? ⟨y, 3, none⟩ = some (.int .i64 c.he) := by'.cell rfl
  have y4 : W.cell? ⟨y, 4, none⟩ = some (.int .i64 c.ke) := by'.cell rfl
  have y5 : W.cell? ⟨y, 5, none⟩ = some (.int .i64 c.ev) := by'.cell rfl
  have y6 : W.cell? ⟨y, 6, none⟩ = some (.int .i64 c.la) := by'.cell rfl
  have y7 : W.cell? ⟨y, 7, none⟩ = some (.slice p n cp) := by'.cell rfl
  have y8 : W.cell? ⟨y, 8, none⟩ = some (.int .i64 B.count) := by'.cell rfl
  have y9 : W.cell? ⟨y, 9, none⟩ = some (.int .i64 B.last.kind) := by'.cell rfl
  have y10 : W.cell? ⟨y, 10, none⟩ = some (.int .i64 B.last.cell) := by'.cell rfl
  have y11 : W.cell? ⟨y, 11, none⟩ = some (.int .u64 B.last.via) := by'.cell rfl
  have y12 : W.cell? ⟨y, 12, none⟩ = some (.int .u64 B.last.old) := by'.cell rfl
  have y13 : W.cell? ⟨y, 13, none⟩ = some (.int .u64 B.last.new) := by'.cell rfl
  have y14 : W.cell? ⟨y, 14, none⟩ = some (.bool B.last.done) := by'.cell rfl
  simp only [Array.getD_eq_getD_getElem?] at hx hy
  simp [results, Try.results45, go_sem, mval, RHS.val, hx, hy, x0, x1, x2, x3, x4, y0, y1, y2, y3, y4, y5, y6, y7, y8, y9, y10, y11, y12, y13, y14]

set_option maxRecDepth 100000 in
set_option maxHeartbeats 2000000 in
theorem rstep_done (c : Cf) (s : Value) (B : Bk) (h nx lv z : Int) (dn : Bool) (w : World) (hv : Words w s B.cells) (hne : B.cells ≠ []) (hd : dn = true) :
    Calls Try.prog 45 #[.agg #[.int .u64 h, .int .i64 nx, .int .i64 lv, .int .u64 z, .bool dn], mval c s B] w (STold w c s ⟨h, nx, lv, z, dn⟩ B) := by
  obtain ⟨A, cap, rfl⟩ := hv.slice
  have HV := hid hv
  have HN := hid hne
  clear hv hne
  subst hd
  unfold mval
  go_enter Try.func45, Try.ntmps45
  go_wp2_with fail
  have G0 := hid (((((Gr.refl w).alloc (.cells #[.int .u64 h, .int .i64 nx, .int .i64 lv, .int .u64 z, .bool true] 84)).alloc (.cells #[.int .i64 c.th, .int .i64 c.sl, .int .i64 c.cp, .int .i64 c.he, .int .i64 c.ke, .int .i64 c.ev, .int .i64 c.la, .slice A B.cells.length cap, .int .i64 B.count, .int .i64 B.last.kind, .int .i64 B.last.cell, .int .u64 B.last.via, .int .u64 B.last.old, .int .u64 B.last.new, .bool B.last.done] 50)).alloc (.cells #[.int .u64 0, .int .i64 0, .int .i64 0, .int .u64 0, .bool false] 84)).alloc (.cells #[.int .i64 0, .int .i64 0, .int .i64 0, .int .i64 0, .int .i64 0, .int .i64 0, .int .i64 0, .slice none 0 0, .int .i64 0, .int .i64 0, .int .i64 0, .int .u64 0, .int .u64 0, .int .u64 0, .bool false] 50))
  have A2 : Hid (Blk ((((w.alloc (.cells #[.int .u64 h, .int .i64 nx, .int .i64 lv, .int .u64 z, .bool true] 84)).alloc (.cells #[.int .i64 c.th, .int .i64 c.sl, .int .i64 c.cp, .int .i64 c.he, .int .i64 c.ke, .int .i64 c.ev, .int .i64 c.la, .slice A B.cells.length cap, .int .i64 B.count, .int .i64 B.last.kind, .int .i64 B.last.cell, .int .u64 B.last.via, .int .u64 B.last.old, .int .u64 B.last.new, .bool B.last.done] 50)).alloc (.cells #[.int .u64 0, .int .i64 0, .int .i64 0, .int .u64 0, .bool false] 84)).alloc (.cells #[.int .i64 0, .int .i64 0, .int .i64 0, .int .i64 0, .int .i64 0, .int .i64 0, .int .i64 0, .slice none 0 0, .int .i64 0, .int .i64 0, .int .i64 0, .int .u64 0, .int .u64 0, .int .u64 0, .bool false] 50)) w.heap.size #[.int .u64 h, .int .i64 nx, .int .i64 lv, .int .u64 z, .bool true] 84) := hid ((((Blk.new w #[.int .u64 h, .int .i64 nx, .int .i64 lv, .int .u64 z, .bool true] 84).alloc _).alloc _).alloc _)
  have A3 : Hid (Blk ((((w.alloc (.cells #[.int .u64 h, .int .i64 nx, .int .i64 lv, .int .u64 z, .bool true] 84)).alloc (.cells #[.int .i64 c.th, .int .i64 c.sl, .int .i64 c.cp, .int .i64 c.he, .int .i64 c.ke, .int .i64 c.ev, .int .i64 c.la, .slice A B.cells.length cap, .int .i64 B.count, .int .i64 B.last.kind, .int .i64 B.last.cell, .int .u64 B.last.via, .int .u64 B.last.old, .int .u64 B.last.new, .bool B.last.done] 50)).alloc (.cells #[.int .u64 0, .int .i64 0, .int .i64 0, .int .u64 0, .bool false] 84)).alloc (.cells #[.int .i64 0, .int .i64 0, .int .i64 0, .int .i64 0, .int .i64 0, .int .i64 0, .int .i64 0, .slice none 0 0, .int .i64 0, .int .i64 0, .int .i64 0, .int .u64 0, .int .u64 0, .int .u64 0, .bool false] 50)) (w.heap.size + 1) #[.int .i64 c.th, .int .i64 c.sl, .int .i64 c.cp, .int .i64 c.he, .int .i64 c.ke, .int .i64 c.ev, .int .i64 c.la, .slice A B.cells.length cap, .int .i64 B.count, .int .i64 B.last.kind, .int .i64 B.last.cell, .int .u64 B.last.via, .int .u64 B.last.old, .int .u64 B.last.new, .bool B.last.done] 50) := hid (((Blk.new' (by simp)).alloc _).alloc _)
  have A4 : Hid (Blk ((((w.alloc (.cells #[.int .u64 h, .int .i64 nx, .int .i64 lv, .int .u64 z, .bool true] 84)).alloc (.cells #[.int .i64 c.th, .int .i64 c.sl, .int .i64 c.cp, .int .i64 c.he, .int .i64 c.ke, .int .i64 c.ev, .int .i64 c.la, .slice A B.cells.length cap, .int .i64 B.count, .int .i64 B.last.kind, .int .i64 B.last.cell, .int .u64 B.last.via, .int .u64 B.last.old, .int .u64 B.last.new, .bool B.last.done] 50)).alloc (.cells #[.int .u64 0, .int .i64 0, .int .i64 0, .int .u64 0, .bool false] 84)).alloc (.cells #[.int .i64 0, .int .i64 0, .int .i64 0, .int .i64 0, .int .i64 0, .int .i64 0, .int .i64 0, .slice none 0 0, .int .i64 0, .int .i64 0, .int .i64 0, .int .u64 0, .int .u64 0, .int .u64 0, .bool false] 50)) (w.heap.size + 1 + 1) #[.int .u64 0, .int .i64 0, .int .i64 0, .int .u64 0, .bool false] 84) := hid ((Blk.new' (by simp)).alloc _)
  have A5 : Hid (Blk ((((w.alloc (.cells #[.int .u64 h, .int .i64 nx, .int .i64 lv, .int .u64 z, .bool true] 84)).alloc (.cells #[.int .i64 c.th, .int .i64 c.sl, .int .i64 c.cp, .int .i64 c.he, .int .i64 c.ke, .int .i64 c.ev, .int .i64 c.la, .slice A B.cells.length cap, .int .i64 B.count, .int .i64 B.last.kind, .int .i64 B.last.cell, .int .u64 B.last.via, .int .u64 B.last.old, .int .u64 B.last.new, .bool B.last.done] 50)).alloc (.cells #[.int .u64 0, .int .i64 0, .int .i64 0, .int .u64 0, .bool false] 84)).alloc (.cells #[.int .i64 0, .int .i64 0, .int .i64 0, .int .i64 0, .int .i64 0, .int .i64 0, .int .i64 0, .slice none 0 0, .int .i64 0, .int .i64 0, .int .i64 0, .int .u64 0, .int .u64 0, .int .u64 0, .bool false] 50)) (w.heap.size + 1 + 1 + 1) #[.int .i64 0, .int .i64 0, .int .i64 0, .int .i64 0, .int .i64 0, .int .i64 0, .int .i64 0, .slice none 0 0, .int .i64 0, .int .i64 0, .int .i64 0, .int .u64 0, .int .u64 0, .int .u64 0, .bool false] 50) := hid (Blk.new' (by simp))
  generalize ((((w.alloc (.cells #[.int .u64 h, .int .i64 nx, .int .i64 lv, .int .u64 z, .bool true] 84)).alloc (.cells #[.int .i64 c.th, .int .i64 c.sl, .int .i64 c.cp, .int .i64 c.he, .int .i64 c.ke, .int .i64 c.ev, .int .i64 c.la, .slice A B.cells.length cap, .int .i64 B.count, .int .i64 B.last.kind, .int .i64 B.last.cell, .int .u64 B.last.via, .int .u64 B.last.old, .int .u64 B.last.new, .bool B.last.done] 50)).alloc (.cells #[.int .u64 0, .int .i64 0, .int .i64 0, .int .u64 0, .bool false] 84)).alloc (.cells #[.int .i64 0, .int .i64 0, .int .i64 0, .int .i64 0, .int .i64 0, .int .i64 0, .int .i64 0, .slice none 0 0, .int .i64 0, .int .i64 0, .int .i64 0, .int .u64 0, .int .u64 0, .int .u64 0, .bool false] 50)) = W0 at *
  have XS0 : w.heap.size + 1 + 1 + 1 < W0.heap.size := A5.out.lt
  generalize e3 : w.heap.size + 1 = x3 at *
  generalize e4 : x3 + 1 = x4 at *
  generalize e5 : x4 + 1 = x5 at *
  generalize e2 : w.heap.size = x2 at *
  have XS : Hid (x2 = w.heap.size ∧ x2 < x3 ∧ x3 < x4 ∧ x4 < x5 ∧ x5 < W0.heap.size) := hid ⟨e2.symm, by omega, by omega, by omega, XS0⟩
  clear XS0 e2 e3 e4 e5
  have GW1 := hid G0.out
  have HW0 := hid (HV.out.gr G0.out)
  have HF : Hid (Fresh w (.slice A B.cells.length cap) (.slice A B.cells.length cap)) := hid (.inl rfl)
  refine wp_gen (fun W => Cls w.heap.size W0.heap.size W0 x2 x3 #[.int .u64 h, .int .i64 nx, .int .i64 lv, .int .u64 z, .bool true] #[.int .i64 c.th, .int .i64 c.sl, .int .i64 c.cp, .int .i64 c.he, .int .i64 c.ke, .int .i64 c.ev, .int .i64 c.la, .slice A B.cells.length cap, .int .i64 B.count, .int .i64 B.last.kind, .int .i64 B.last.cell, .int .u64 B.last.via, .int .u64 B.last.old, .int .u64 B.last.new, .bool B.last.done] W ∧ Blk W x4 #[.int .u64 0, .int .i64 0, .int .i64 0, .int .u64 0, .bool false] 84 ∧ Blk W x5 #[.int .i64 0, .int .i64 0, .int .i64 0, .int .i64 0, .int .i64 0, .int .i64 0, .int .i64 0, .slice none 0 0, .int .i64 0, .int .i64 0, .int .i64 0, .int .u64 0, .int .u64 0, .int .u64 0, .bool false] 50) ⟨⟨A2.out, A3.out, Chg.refl _ _⟩, A4.out, A5.out⟩ ?_
  intro W HI
  have NX : Hid (∀ a n cc, (Value.slice A B.cells.length cap) = .slice (some a) n cc → ∀ k, w.heap.size ≤ k → k < W0.heap.size → a.block ≠ k) := hid (Fresh.nx (wx := W0) (.inl rfl) HV.out HN.out (Nat.le_refl _))
  have HC := hid HI.1.drew
  have D4 := hid HI.2.1.drew
  have D5 := hid HI.2.2.drew
  clear HI
  refine wp_region_anyC (n := 4) (Cls w.heap.size W0.heap.size W0 x2 x3 #[.int .u64 h, .int .i64 nx, .int .i64 lv, .int .u64 z, .bool true] #[.int .i64 c.th, .int .i64 c.sl, .int .i64 c.cp, .int .i64 c.he, .int .i64 c.ke, .int .i64 c.ev, .int .i64 c.la, .slice A B.cells.length cap, .int .i64 B.count, .int .i64 B.last.kind, .int .i64 B.last.cell, .int .u64 B.last.via, .int .u64 B.last.old, .int .u64 B.last.new, .bool B.last.done]) (by kernel_rfl) rfl ?_
  generalize World.drew _ = Wd at *
  refine anyC_quiet (a1 := ?a1) (by kernel_rfl) 2 [0, 1] _ _ _ (by kernel_rfl) (by kernel_rfl) HC.out ?_ ?_
  rotate_left
  · intro w' g'
    have hne : Nonempty (St (· = w')) := ⟨⟨w', rfl⟩⟩
    have X3 := g'.x
    obtain ⟨u0, u1, u2, u3, u4⟩ := st5 (X3)
    clear X3
    have X3 := g'.m
    obtain ⟨y0, y1, y2, y3, y4, y5, y6, y7, y8, y9, y10, y11, y12, y13, y14⟩ := st15 (X3)
    clear X3
    clear g'
    conv => arg 5; simp only [picked, List.filterMap_cons, List.filterMap_nil, List.getElem?_toArray, List.getElem?_cons_zero, List.getElem?_cons_succ]
    show wpQuiet _ _ _ _ [_, _] _
    repeat (go_big_quiet_step (fail))
    refine wpQuiet_nil ?_
    rfl
  obtain ⟨q0, q1, q2, q3, q4⟩ := cells5 (D4.out)
  have ql := D4.out.lt
  have qf := fun i => Blk.free D4.out i
  refine anyC_alone 2 HC.out (by kernel_rfl) (by kernel_rfl) ?_
  conv => arg 4; simp only [picked, List.filterMap_cons, List.filterMap_nil, List.getElem?_toArray, List.getElem?_cons_zero, List.getElem?_cons_succ]
  show wpList _ _ _ [_] _ _
  go_wp2_with fail
  clear q0 q1 q2 q3 q4 ql qf
  have E4 : Hid (Blk (((((Wd.setCell ⟨x4, 0, none⟩ (.int .u64 h)).setCell ⟨x4, 1, none⟩ (.int .i64 nx)).setCell ⟨x4, 2, none⟩ (.int .i64 lv)).setCell ⟨x4, 3, none⟩ (.int .u64 z)).setCell ⟨x4, 4, none⟩ (.bool true)) x4 #[.int .u64 h, .int .i64 nx, .int .i64 lv, .int .u64 z, .bool true] 84) := hid (blk_put5 D4.out (.int .u64 h) (.int .i64 nx) (.int .i64 lv) (.int .u64 z) (.bool true))
  have HC4 := hid (chg_put5 Wd x4 (.int .u64 h) (.int .i64 nx) (.int .i64 lv) (.int .u64 z) (.bool true))
  have E5 := hid (Blk.chg D5.out HC4.out (by have := XS.out; omega))
  have HC2 := hid (HC.out.put HC4.out (by have := XS.out; omega) (by have := XS.out; omega) (by have := XS.out; omega) (by have := XS.out; omega))
  generalize (((((Wd.setCell ⟨x4, 0, none⟩ (.int .u64 h)).setCell ⟨x4, 1, none⟩ (.int .i64 nx)).setCell ⟨x4, 2, none⟩ (.int .i64 lv)).setCell ⟨x4, 3, none⟩ (.int .u64 z)).setCell ⟨x4, 4, none⟩ (.bool true)) = Wf at *
  clear HC HC4 D4 D5
  refine ⟨HC2.out, ?_⟩
  obtain ⟨q0, q1, q2, q3, q4, q5, q6, q7, q8, q9, q10, q11, q12, q13, q14⟩ := cells15 (E5.out)
  have ql := E5.out.lt
  have qf := fun i => Blk.free E5.out i
  refine anyC_alone 3 HC2.out (by kernel_rfl) (by kernel_rfl) ?_
  conv => arg 4; simp only [picked, List.filterMap_cons, List.filterMap_nil, List.getElem?_toArray, List.getElem?_cons_zero, List.getElem?_cons_succ]
  show wpList _ _ _ [_] _ _
  go_wp2_with fail
  clear q0 q1 q2 q3 q4 q5 q6 q7 q8 q9 q10 q11 q12 q13 q14 ql qf
  have F5 : Hid (Blk (((((((((((((((Wf.setCell ⟨x5, 0, none⟩ (.int .i64 c.th)).setCell ⟨x5, 1, none⟩ (.int .i64 c.sl)).setCell ⟨x5, 2, none⟩ (.int .i64 c.cp)).setCell ⟨x5, 3, none⟩ (.int .i64 c.he)).setCell ⟨x5, 4, none⟩ (.int .i64 c.ke)).setCell ⟨x5, 5, none⟩ (.int .i64 c.ev)).setCell ⟨x5, 6, none⟩ (.int .i64 c.la)).setCell ⟨x5, 7, none⟩ (.slice A B.cells.length cap)).setCell ⟨x5, 8, none⟩ (.int .i64 B.count)).setCell ⟨x5, 9, none⟩ (.int .i64 B.last.kind)).setCell ⟨x5, 10, none⟩ (.int .i64 B.last.cell)).setCell ⟨x5, 11, none⟩ (.int .u64 B.last.via)).setCell ⟨x5, 12, none⟩ (.int .u64 B.last.old)).setCell ⟨x5, 13, none⟩ (.int .u64 B.last.new)).setCell ⟨x5, 14, none⟩ (.bool B.last.done)) x5 #[.int .i64 c.th, .int .i64 c.sl, .int .i64 c.cp, .int .i64 c.he, .int .i64 c.ke, .int .i64 c.ev, .int .i64 c.la, .slice A B.cells.length cap, .int .i64 B.count, .int .i64 B.last.kind, .int .i64 B.last.cell, .int .u64 B.last.via, .int .u64 B.last.old, .int .u64 B.last.new, .bool B.last.done] 50) := hid (blk_put15 E5.out (.int .i64 c.th) (.int .i64 c.sl) (.int .i64 c.cp) (.int .i64 c.he) (.int .i64 c.ke) (.int .i64 c.ev) (.int .i64 c.la) (.slice A B.cells.length cap) (.int .i64 B.count) (.int .i64 B.last.kind) (.int .i64 B.last.cell) (.int .u64 B.last.via) (.int .u64 B.last.old) (.int .u64 B.last.new) (.bool B.last.done))
  have HC5 := hid (chg_put15 Wf x5 (.int .i64 c.th) (.int .i64 c.sl) (.int .i64 c.cp) (.int .i64 c.he) (.int .i64 c.ke) (.int .i64 c.ev) (.int .i64 c.la) (.slice A B.cells.length cap) (.int .i64 B.count) (.int .i64 B.last.kind) (.int .i64 B.last.cell) (.int .u64 B.last.via) (.int .u64 B.last.old) (.int .u64 B.last.new) (.bool B.last.done))
  have F4 := hid (Blk.chg E4.out HC5.out (by have := XS.out; omega))
  have HC3 := hid (HC2.out.put HC5.out (by have := XS.out; omega) (by have := XS.out; omega) (by have := XS.out; omega) (by have := XS.out; omega))
  generalize (((((((((((((((Wf.setCell ⟨x5, 0, none⟩ (.int .i64 c.th)).setCell ⟨x5, 1, none⟩ (.int .i64 c.sl)).setCell ⟨x5, 2, none⟩ (.int .i64 c.cp)).setCell ⟨x5, 3, none⟩ (.int .i64 c.he)).setCell ⟨x5, 4, none⟩ (.int .i64 c.ke)).setCell ⟨x5, 5, none⟩ (.int .i64 c.ev)).setCell ⟨x5, 6, none⟩ (.int .i64 c.la)).setCell ⟨x5, 7, none⟩ (.slice A B.cells.length cap)).setCell ⟨x5, 8, none⟩ (.int .i64 B.count)).setCell ⟨x5, 9, none⟩ (.int .i64 B.last.kind)).setCell ⟨x5, 10, none⟩ (.int .i64 B.last.cell)).setCell ⟨x5, 11, none⟩ (.int .u64 B.last.via)).setCell ⟨x5, 12, none⟩ (.int .u64 B.last.old)).setCell ⟨x5, 13, none⟩ (.int .u64 B.last.new)).setCell ⟨x5, 14, none⟩ (.bool B.last.done)) = Wg at *
  clear HC2 HC5 E4 E5
  refine ⟨HC3.out, ?_⟩
  refine ⟨by kernel_rfl, ?_⟩
  go_wp2_with fail
  refine bodyPost_ret (v := .tuple #[RHS.val ⟨h, nx, lv, z, true⟩, mval c (.slice A B.cells.length cap) B]) (res45 _ x4 x5 _ ⟨h, nx, lv, z, true⟩ c (.slice A B.cells.length cap) B ⟨_, _, _, rfl⟩ rfl rfl F4.out F5.out) rfl ⟨(.slice A B.cells.length cap), rfl, ?_, ?_, HF.out⟩
  · exact HW0.out.keep HC3.out.chg (fun a n cc e _ hk => NX.out a n cc e _ hk.1 hk.2 rfl)
  · exact Gr.step GW1.out HC3.out.chg (fun k hk => hk.1)

theorem tall1 {c : Cf} {n : Int} (hok : c.Ok) (hu : U64 n) (h1 : n < IntKind.u64.wrap c.he) (h2 : 0 ≤ wrap64 (wrap64 n - 1)) : wrap64 (wrap64 n - 1) = topLv c n := by
  have a := hok.2.2.2.2.2.2.1
  have b := hok.2.2.2.2.2.2.2.1
  have e : IntKind.u64.wrap c.he = c.he := by show c.he % 18446744073709551616 = _; omega
  rw [e] at h1
  unfold U64 at hu
  rw [w64 (x := n) (by omega) (by omega), w64 (by omega) (by omega)] at *
  unfold topLv
  omega
theorem tall3 {c : Cf} {n : Int} (hok : c.Ok) (hu : U64 n) (h1 : IntKind.u64.wrap c.he ≤ n) : wrap64 (c.he - 1) = topLv c n := by
  have a := hok.2.2.2.2.2.2.1
  have b := hok.2.2.2.2.2.2.2.1
  have e : IntKind.u64.wrap c.he = c.he := by show c.he % 18446744073709551616 = _; omega
  rw [e] at h1
  rw [w64 (by omega) (by omega)]
  unfold topLv
  omega
theorem tall4 {c : Cf} {n : Int} (hok : c.Ok) (hu : U64 n) (h1 : n < IntKind.u64.wrap c.he) (h2 : wrap64 (wrap64 n - 1) < 0) : 0 = topLv c n := by
  have a := hok.2.2.2.2.2.2.1
  have b := hok.2.2.2.2.2.2.2.1
  have e : IntKind.u64.wrap c.he = c.he := by show c.he % 18446744073709551616 = _; omega
  rw [e] at h1
  unfold U64 at hu
  rw [w64 (x := n) (by omega) (by omega), w64 (by omega) (by omega)] at h2
  unfold topLv
  omega

set_option maxRecDepth 100000 in
set_option maxHeartbeats 2000000 in
theorem rstep_tall (c : Cf) (s : Value) (B : Bk) (h nx lv z : Int) (dn : Bool) (w : World) (hv : Words w s B.cells) (hne : B.cells ≠ []) (hok : c.Ok) (hd : dn = false) (hn : nx = 0) (B1 : Bk) (hu : U64 B1.last.old) (hl : ∀ s w, Words w s B.cells → Calls Try.prog 68 #[mval c s B, .int .u64 h, .int .i64 4] w (MTold w c s B1 (.int .u64 B1.last.old))) :
    Calls Try.prog 45 #[.agg #[.int .u64 h, .int .i64 nx, .int .i64 lv, .int .u64 z, .bool dn], mval c s B] w (STold w c s ⟨h, 1, topLv c B1.last.old, z, false⟩ B1) := by
  obtain ⟨A, cap, rfl⟩ := hv.slice
  have HV := hid hv
  have HN := hid hne
  clear hv hne
  have hld := hid (hl (.slice A B.cells.length cap))
  have HOK := hid hok
  have HU := hid hu
  clear hl hok hu
  unfold mval at hld
  subst hd
  subst hn
  unfold mval
  go_enter Try.func45, Try.ntmps45
  go_wp2_with fail
  have G0 := hid (((((Gr.refl w).alloc (.cells #[.int .u64 h, .int .i64 0, .int .i64 lv, .int .u64 z, .bool false] 84)).alloc (.cells #[.int .i64 c.th, .int .i64 c.sl, .int .i64 c.cp, .int .i64 c.he, .int .i64 c.ke, .int .i64 c.ev, .int .i64 c.la, .slice A B.cells.length cap, .int .i64 B.count, .int .i64 B.last.kind, .int .i64 B.last.cell, .int .u64 B.last.via, .int .u64 B.last.old, .int .u64 B.last.new, .bool B.last.done] 50)).alloc (.cells #[.int .u64 0, .int .i64 0, .int .i64 0, .int .u64 0, .bool false] 84)).alloc (.cells #[.int .i64 0, .int .i64 0, .int .i64 0, .int .i64 0, .int .i64 0, .int .i64 0, .int .i64 0, .slice none 0 0, .int .i64 0, .int .i64 0, .int .i64 0, .int .u64 0, .int .u64 0, .int .u64 0, .bool false] 50))
  have A2 : Hid (Blk ((((w.alloc (.cells #[.int .u64 h, .int .i64 0, .int .i64 lv, .int .u64 z, .bool false] 84)).alloc (.cells #[.int .i64 c.th, .int .i64 c.sl, .int .i64 c.cp, .int .i64 c.he, .int .i64 c.ke, .int .i64 c.ev, .int .i64 c.la, .slice A B.cells.length cap, .int .i64 B.count, .int .i64 B.last.kind, .int .i64 B.last.cell, .int .u64 B.last.via, .int .u64 B.last.old, .int .u64 B.last.new, .bool B.last.done] 50)).alloc (.cells #[.int .u64 0, .int .i64 0, .int .i64 0, .int .u64 0, .bool false] 84)).alloc (.cells #[.int .i64 0, .int .i64 0, .int .i64 0, .int .i64 0, .int .i64 0, .int .i64 0, .int .i64 0, .slice none 0 0, .int .i64 0, .int .i64 0, .int .i64 0, .int .u64 0, .int .u64 0, .int .u64 0, .bool false] 50)) w.heap.size #[.int .u64 h, .int .i64 0, .int .i64 lv, .int .u64 z, .bool false] 84) := hid ((((Blk.new w #[.int .u64 h, .int .i64 0, .int .i64 lv, .int .u64 z, .bool false] 84).alloc _).alloc _).alloc _)
  have A3 : Hid (Blk ((((w.alloc (.cells #[.int .u64 h, .int .i64 0, .int .i64 lv, .int .u64 z, .bool false] 84)).alloc (.cells #[.int .i64 c.th, .int .i64 c.sl, .int .i64 c.cp, .int .i64 c.he, .int .i64 c.ke, .int .i64 c.ev, .int .i64 c.la, .slice A B.cells.length cap, .int .i64 B.count, .int .i64 B.last.kind, .int .i64 B.last.cell, .int .u64 B.last.via, .int .u64 B.last.old, .int .u64 B.last.new, .bool B.last.done] 50)).alloc (.cells #[.int .u64 0, .int .i64 0, .int .i64 0, .int .u64 0, .bool false] 84)).alloc (.cells #[.int .i64 0, .int .i64 0, .int .i64 0, .int .i64 0, .int .i64 0, .int .i64 0, .int .i64 0, .slice none 0 0, .int .i64 0, .int .i64 0, .int .i64 0, .int .u64 0, .int .u64 0, .int .u64 0, .bool false] 50)) (w.heap.size + 1) #[.int .i64 c.th, .int .i64 c.sl, .int .i64 c.cp, .int .i64 c.he, .int .i64 c.ke, .int .i64 c.ev, .int .i64 c.la, .slice A B.cells.length cap, .int .i64 B.count, .int .i64 B.last.kind, .int .i64 B.last.cell, .int .u64 B.last.via, .int .u64 B.last.old, .int .u64 B.last.new, .bool B.last.done] 50) := hid (((Blk.new' (by simp)).alloc _).alloc _)
  have A4 : Hid (Blk ((((w.alloc (.cells #[.int .u64 h, .int .i64 0, .int .i64 lv, .int .u64 z, .bool false] 84)).alloc (.cells #[.int .i64 c.th, .int .i64 c.sl, .int .i64 c.cp, .int .i64 c.he, .int .i64 c.ke, .int .i64 c.ev, .int .i64 c.la, .slice A B.cells.length cap, .int .i64 B.count, .int .i64 B.last.kind, .int .i64 B.last.cell, .int .u64 B.last.via, .int .u64 B.last.old, .int .u64 B.last.new, .bool B.last.done] 50)).alloc (.cells #[.int .u64 0, .int .i64 0, .int .i64 0, .int .u64 0, .bool false] 84)).alloc (.cells #[.int .i64 0, .int .i64 0, .int .i64 0, .int .i64 0, .int .i64 0, .int .i64 0, .int .i64 0, .slice none 0 0, .int .i64 0, .int .i64 0, .int .i64 0, .int .u64 0, .int .u64 0, .int .u64 0, .bool false] 50)) (w.heap.size + 1 + 1) #[.int .u64 0, .int .i64 0, .int .i64 0, .int .u64 0, .bool false] 84) := hid ((Blk.new' (by simp)).alloc _)
  have A5 : Hid (Blk ((((w.alloc (.cells #[.int .u64 h, .int .i64 0, .int .i64 lv, .int .u64 z, .bool false] 84)).alloc (.cells #[.int .i64 c.th, .int .i64 c.sl, .int .i64 c.cp, .int .i64 c.he, .int .i64 c.ke, .int .i64 c.ev, .int .i64 c.la, .slice A B.cells.length cap, .int .i64 B.count, .int .i64 B.last.kind, .int .i64 B.last.cell, .int .u64 B.last.via, .int .u64 B.last.old, .int .u64 B.last.new, .bool B.last.done] 50)).alloc (.cells #[.int .u64 0, .int .i64 0, .int .i64 0, .int .u64 0, .bool false] 84)).alloc (.cells #[.int .i64 0, .int .i64 0, .int .i64 0, .int .i64 0, .int .i64 0, .int .i64 0, .int .i64 0, .slice none 0 0, .int .i64 0, .int .i64 0, .int .i64 0, .int .u64 0, .int .u64 0, .int .u64 0, .bool false] 50)) (w.heap.size + 1 + 1 + 1) #[.int .i64 0, .int .i64 0, .int .i64 0, .int .i64 0, .int .i64 0, .int .i64 0, .int .i64 0, .slice none 0 0, .int .i64 0, .int .i64 0, .int .i64 0, .int .u64 0, .int .u64 0, .int .u64 0, .bool false] 50) := hid (Blk.new' (by simp))
  generalize ((((w.alloc (.cells #[.int .u64 h, .int .i64 0, .int .i64 lv, .int .u64 z, .bool false] 84)).alloc (.cells #[.int .i64 c.th, .int .i64 c.sl, .int .i64 c.cp, .int .i64 c.he, .int .i64 c.ke, .int .i64 c.ev, .int .i64 c.la, .slice A B.cells.length cap, .int .i64 B.count, .int .i64 B.last.kind, .int .i64 B.last.cell, .int .u64 B.last.via, .int .u64 B.last.old, .int .u64 B.last.new, .bool B.last.done] 50)).alloc (.cells #[.int .u64 0, .int .i64 0, .int .i64 0, .int .u64 0, .bool false] 84)).alloc (.cells #[.int .i64 0, .int .i64 0, .int .i64 0, .int .i64 0, .int .i64 0, .int .i64 0, .int .i64 0, .slice none 0 0, .int .i64 0, .int .i64 0, .int .i64 0, .int .u64 0, .int .u64 0, .int .u64 0, .bool false] 50)) = W0 at *
  have XS0 : w.heap.size + 1 + 1 + 1 < W0.heap.size := A5.out.lt
  generalize e3 : w.heap.size + 1 = x3 at *
  generalize e4 : x3 + 1 = x4 at *
  generalize e5 : x4 + 1 = x5 at *
  generalize e2 : w.heap.size = x2 at *
  have XS : Hid (x2 = w.heap.size ∧ x2 < x3 ∧ x3 < x4 ∧ x4 < x5 ∧ x5 < W0.heap.size) := hid ⟨e2.symm, by omega, by omega, by omega, XS0⟩
  clear XS0 e2 e3 e4 e5
  refine (hld.out _ (HV.out.gr G0.out)).mono ?_
  rintro e w1 ⟨s1, rfl, hw1, g1, hf1⟩
  obtain ⟨A1, cap1, rfl⟩ := hw1.slice
  have HW1 := hid hw1
  have GW1 := hid (Gr.trans G0.out g1)
  have NX := hid (Fresh.nx hf1 HV.out HN.out (Nat.le_refl _))
  have HF := hid (Fresh.mono hf1 G0.out.size)
  have B2 := hid (Blk.gr A2.out g1)
  have B3 := hid (Blk.gr A3.out g1)
  have B4 := hid (Blk.gr A4.out g1)
  have B5 := hid (Blk.gr A5.out g1)
  have sz := g1.size
  have l2 : x2 < w1.heap.size := by have := XS.out; omega
  have l3 : x3 < w1.heap.size := by have := XS.out; omega
  have l4 : x4 < w1.heap.size := by have := XS.out; omega
  have l5 : x5 < w1.heap.size := by have := XS.out; omega
  have LL : Hid (x2 < w1.heap.size ∧ x3 < w1.heap.size ∧ x4 < w1.heap.size ∧ x5 < w1.heap.size) := hid ⟨l2, l3, l4, l5⟩
  clear hw1 g1 hf1 sz
  unfold mval
  obtain ⟨p0, p1, p2, p3, p4⟩ := cells5 (B2.out)
  obtain ⟨m0, m1, m2, m3, m4, m5, m6, m7, m8, m9, m10, m11, m12, m13, m14⟩ := cells15 (B3.out)
  have pf := fun i => Blk.free B2.out i
  go_wp2_with fail
  · rename_i k1 k2 _ _
    have K := hid (And.intro k1 k2)
    clear k1 k2
    have hx := hid (tall4 HOK.out HU.out K.out.1 K.out.2)
    clear p0 p1 p2 p3 p4 m0 m1 m2 m3 m4 m5 m6 m7 m8 m9 m10 m11 m12 m13 m14 pf l2 l3 l4 l5
    have hF : w.heap.size ≤ x2 ∧ x2 < W0.heap.size := by have := XS.out; omega
    refine wp_gen (fun W => Cls w.heap.size W0.heap.size w1 x2 w1.heap.size #[.int .u64 h, .int .i64 1, .int .i64 (topLv c B1.last.old), .int .u64 z, .bool false] #[.int .i64 c.th, .int .i64 c.sl, .int .i64 c.cp, .int .i64 c.he, .int .i64 c.ke, .int .i64 c.ev, .int .i64 c.la, .slice A1 B1.cells.length cap1, .int .i64 B1.count, .int .i64 B1.last.kind, .int .i64 B1.last.cell, .int .u64 B1.last.via, .int .u64 B1.last.old, .int .u64 B1.last.new, .bool B1.last.done] W ∧ Blk W x4 #[.int .u64 0, .int .i64 0, .int .i64 0, .int .u64 0, .bool false] 84 ∧ Blk W x5 #[.int .i64 0, .int .i64 0, .int .i64 0, .int .i64 0, .int .i64 0, .int .i64 0, .int .i64 0, .slice none 0 0, .int .i64 0, .int .i64 0, .int .i64 0, .int .u64 0, .int .u64 0, .int .u64 0, .bool false] 50) ⟨⟨Blk.alloc (Blk.of_eq (Blk.set (Blk.set (Blk.set (Blk.set B2.out 2 _) 2 _) 2 _) 1 _) (by simp [hx.out])) _, Blk.new' (by simp), Chg.alloc (Chg.setCell (Chg.setCell (Chg.setCell (Chg.setCell (Chg.refl _ w1) (.inl hF) _) (.inl hF) _) (.inl hF) _) (.inl hF) _) _⟩, Blk.alloc (Blk.set_other (Blk.set_other (Blk.set_other (Blk.set_other B4.out (by have := XS.out; show x4 ≠ x2; omega) _) (by have := XS.out; show x4 ≠ x2; omega) _) (by have := XS.out; show x4 ≠ x2; omega) _) (by have := XS.out; show x4 ≠ x2; omega) _) _, Blk.alloc (Blk.set_other (Blk.set_other (Blk.set_other (Blk.set_other B5.out (by have := XS.out; show x5 ≠ x2; omega) _) (by have := XS.out; show x5 ≠ x2; omega) _) (by have := XS.out; show x5 ≠ x2; omega) _) (by have := XS.out; show x5 ≠ x2; omega) _) _⟩ ?_
    intro W HI
    clear hF
    have HC := hid HI.1.drew
    have D4 := hid HI.2.1.drew
    have D5 := hid HI.2.2.drew
    clear HI
    refine wp_region_anyC (n := 4) (Cls w.heap.size W0.heap.size w1 x2 w1.heap.size #[.int .u64 h, .int .i64 1, .int .i64 (topLv c B1.last.old), .int .u64 z, .bool false] #[.int .i64 c.th, .int .i64 c.sl, .int .i64 c.cp, .int .i64 c.he, .int .i64 c.ke, .int .i64 c.ev, .int .i64 c.la, .slice A1 B1.cells.length cap1, .int .i64 B1.count, .int .i64 B1.last.kind, .int .i64 B1.last.cell, .int .u64 B1.last.via, .int .u64 B1.last.old, .int .u64 B1.last.new, .bool B1.last.done]) (by kernel_rfl) rfl ?_
    generalize World.drew _ = Wd at *
    refine anyC_quiet (a1 := ?a2) (by kernel_rfl) 2 [0, 1] _ _ _ (by kernel_rfl) (by kernel_rfl) HC.out ?_ ?_
    rotate_left
    · intro w' g'
      have hne : Nonempty (St (· = w')) := ⟨⟨w', rfl⟩⟩
      have X3 := g'.x
      obtain ⟨u0, u1, u2, u3, u4⟩ := st5 (X3)
      clear X3
      have X3 := g'.m
      obtain ⟨y0, y1, y2, y3, y4, y5, y6, y7, y8, y9, y10, y11, y12, y13, y14⟩ := st15 (X3)
      clear X3
      clear g'
      conv => arg 5; simp only [picked, List.filterMap_cons, List.filterMap_nil, List.getElem?_toArray, List.getElem?_cons_zero, List.getElem?_cons_succ]
      show wpQuiet _ _ _ _ [_, _] _
      repeat (go_big_quiet_step (fail))
      refine wpQuiet_nil ?_
      rfl
    obtain ⟨q0, q1, q2, q3, q4⟩ := cells5 (D4.out)
    have ql := D4.out.lt
    have qf := fun i => Blk.free D4.out i
    refine anyC_alone 2 HC.out (by kernel_rfl) (by kernel_rfl) ?_
    conv => arg 4; simp only [picked, List.filterMap_cons, List.filterMap_nil, List.getElem?_toArray, List.getElem?_cons_zero, List.getElem?_cons_succ]
    show wpList _ _ _ [_] _ _
    go_wp2_with fail
    clear q0 q1 q2 q3 q4 ql qf
    have E4 : Hid (Blk (((((Wd.setCell ⟨x4, 0, none⟩ (.int .u64 h)).setCell ⟨x4, 1, none⟩ (.int .i64 1)).setCell ⟨x4, 2, none⟩ (.int .i64 (topLv c B1.last.old))).setCell ⟨x4, 3, none⟩ (.int .u64 z)).setCell ⟨x4, 4, none⟩ (.bool false)) x4 #[.int .u64 h, .int .i64 1, .int .i64 (topLv c B1.last.old), .int .u64 z, .bool false] 84) := hid (blk_put5 D4.out (.int .u64 h) (.int .i64 1) (.int .i64 (topLv c B1.last.old)) (.int .u64 z) (.bool false))
    have HC4 := hid (chg_put5 Wd x4 (.int .u64 h) (.int .i64 1) (.int .i64 (topLv c B1.last.old)) (.int .u64 z) (.bool false))
    have E5 := hid (Blk.chg D5.out HC4.out (by have := XS.out; omega))
    have HC2 := hid (HC.out.put HC4.out (by have := XS.out; omega) (by have := LL.out; omega) (by have := XS.out; omega) (by have := XS.out; omega))
    generalize (((((Wd.setCell ⟨x4, 0, none⟩ (.int .u64 h)).setCell ⟨x4, 1, none⟩ (.int .i64 1)).setCell ⟨x4, 2, none⟩ (.int .i64 (topLv c B1.last.old))).setCell ⟨x4, 3, none⟩ (.int .u64 z)).setCell ⟨x4, 4, none⟩ (.bool false)) = Wf at *
    clear HC HC4 D4 D5
    refine ⟨HC2.out, ?_⟩
    obtain ⟨q0, q1, q2, q3, q4, q5, q6, q7, q8, q9, q10, q11, q12, q13, q14⟩ := cells15 (E5.out)
    have ql := E5.out.lt
    have qf := fun i => Blk.free E5.out i
    refine anyC_alone 3 HC2.out (by kernel_rfl) (by kernel_rfl) ?_
    conv => arg 4; simp only [picked, List.filterMap_cons, List.filterMap_nil, List.getElem?_toArray, List.getElem?_cons_zero, List.getElem?_cons_succ]
    show wpList _ _ _ [_] _ _
    go_wp2_with fail
    clear q0 q1 q2 q3 q4 q5 q6 q7 q8 q9 q10 q11 q12 q13 q14 ql qf
    have F5 : Hid (Blk (((((((((((((((Wf.setCell ⟨x5, 0, none⟩ (.int .i64 c.th)).setCell ⟨x5, 1, none⟩ (.int .i64 c.sl)).setCell ⟨x5, 2, none⟩ (.int .i64 c.cp)).setCell ⟨x5, 3, none⟩ (.int .i64 c.he)).setCell ⟨x5, 4, none⟩ (.int .i64 c.ke)).setCell ⟨x5, 5, none⟩ (.int .i64 c.ev)).setCell ⟨x5, 6, none⟩ (.int .i64 c.la)).setCell ⟨x5, 7, none⟩ (.slice A1 B1.cells.length cap1)).setCell ⟨x5, 8, none⟩ (.int .i64 B1.count)).setCell ⟨x5, 9, none⟩ (.int .i64 B1.last.kind)).setCell ⟨x5, 10, none⟩ (.int .i64 B1.last.cell)).setCell ⟨x5, 11, none⟩ (.int .u64 B1.last.via)).setCell ⟨x5, 12, none⟩ (.int .u64 B1.last.old)).setCell ⟨x5, 13, none⟩ (.int .u64 B1.last.new)).setCell ⟨x5, 14, none⟩ (.bool B1.last.done)) x5 #[.int .i64 c.th, .int .i64 c.sl, .int .i64 c.cp, .int .i64 c.he, .int .i64 c.ke, .int .i64 c.ev, .int .i64 c.la, .slice A1 B1.cells.length cap1, .int .i64 B1.count, .int .i64 B1.last.kind, .int .i64 B1.last.cell, .int .u64 B1.last.via, .int .u64 B1.last.old, .int .u64 B1.last.new, .bool B1.last.done] 50) := hid (blk_put15 E5.out (.int .i64 c.th) (.int .i64 c.sl) (.int .i64 c.cp) (.int .i64 c.he) (.int .i64 c.ke) (.int .i64 c.ev) (.int .i64 c.la) (.slice A1 B1.cells.length cap1) (.int .i64 B1.count) (.int .i64 B1.last.kind) (.int .i64 B1.last.cell) (.int .u64 B1.last.via) (.int .u64 B1.last.old) (.int .u64 B1.last.new) (.bool B1.last.done))
    have HC5 := hid (chg_put15 Wf x5 (.int .i64 c.th) (.int .i64 c.sl) (.int .i64 c.cp) (.int .i64 c.he) (.int .i64 c.ke) (.int .i64 c.ev) (.int .i64 c.la) (.slice A1 B1.cells.length cap1) (.int .i64 B1.count) (.int .i64 B1.last.kind) (.int .i64 B1.last.cell) (.int .u64 B1.last.via) (.int .u64 B1.last.old) (.int .u64 B1.last.new) (.bool B1.last.done))
    have F4 := hid (Blk.chg E4.out HC5.out (by have := XS.out; omega))
    have HC3 := hid (HC2.out.put HC5.out (by have := XS.out; omega) (by have := LL.out; omega) (by have := XS.out; omega) (by have := XS.out; omega))
    generalize (((((((((((((((Wf.setCell ⟨x5, 0, none⟩ (.int .i64 c.th)).setCell ⟨x5, 1, none⟩ (.int .i64 c.sl)).setCell ⟨x5, 2, none⟩ (.int .i64 c.cp)).setCell ⟨x5, 3, none⟩ (.int .i64 c.he)).setCell ⟨x5, 4, none⟩ (.int .i64 c.ke)).setCell ⟨x5, 5, none⟩ (.int .i64 c.ev)).setCell ⟨x5, 6, none⟩ (.int .i64 c.la)).setCell ⟨x5, 7, none⟩ (.slice A1 B1.cells.length cap1)).setCell ⟨x5, 8, none⟩ (.int .i64 B1.count)).setCell ⟨x5, 9, none⟩ (.int .i64 B1.last.kind)).setCell ⟨x5, 10, none⟩ (.int .i64 B1.last.cell)).setCell ⟨x5, 11, none⟩ (.int .u64 B1.last.via)).setCell ⟨x5, 12, none⟩ (.int .u64 B1.last.old)).setCell ⟨x5, 13, none⟩ (.int .u64 B1.last.new)).setCell ⟨x5, 14, none⟩ (.bool B1.last.done)) = Wg at *
    clear HC2 HC5 E4 E5
    refine ⟨HC3.out, ?_⟩
    refine ⟨by kernel_rfl, ?_⟩
    go_wp2_with fail
    refine bodyPost_ret (v := .tuple #[RHS.val ⟨h, 1, topLv c B1.last.old, z, false⟩, mval c (.slice A1 B1.cells.length cap1) B1]) (res45 _ x4 x5 _ ⟨h, 1, topLv c B1.last.old, z, false⟩ c (.slice A1 B1.cells.length cap1) B1 ⟨_, _, _, rfl⟩ rfl rfl F4.out F5.out) rfl ⟨(.slice A1 B1.cells.length cap1), rfl, ?_, ?_, HF.out⟩
    · exact HW1.out.keep HC3.out.chg (fun a n cc e _ hk => NX.out a n cc e _ hk.1 hk.2 rfl)
    · exact Gr.step GW1.out HC3.out.chg (fun k hk => hk.1)
  · rename_i k1 k2 _ _
    have K := hid (And.intro k1 k2)
    clear k1 k2
    have hx := hid (tall1 HOK.out HU.out K.out.1 K.out.2)
    clear p0 p1 p2 p3 p4 m0 m1 m2 m3 m4 m5 m6 m7 m8 m9 m10 m11 m12 m13 m14 pf l2 l3 l4 l5
    have hF : w.heap.size ≤ x2 ∧ x2 < W0.heap.size := by have := XS.out; omega
    refine wp_gen (fun W => Cls w.heap.size W0.heap.size w1 x2 w1.heap.size #[.int .u64 h, .int .i64 1, .int .i64 (topLv c B1.last.old), .int .u64 z, .bool false] #[.int .i64 c.th, .int .i64 c.sl, .int .i64 c.cp, .int .i64 c.he, .int .i64 c.ke, .int .i64 c.ev, .int .i64 c.la, .slice A1 B1.cells.length cap1, .int .i64 B1.count, .int .i64 B1.last.kind, .int .i64 B1.last.cell, .int .u64 B1.last.via, .int .u64 B1.last.old, .int .u64 B1.last.new, .bool B1.last.done] W ∧ Blk W x4 #[.int .u64 0, .int .i64 0, .int .i64 0, .int .u64 0, .bool false] 84 ∧ Blk W x5 #[.int .i64 0, .int .i64 0, .int .i64 0, .int .i64 0, .int .i64 0, .int .i64 0, .int .i64 0, .slice none 0 0, .int .i64 0, .int .i64 0, .int .i64 0, .int .u64 0, .int .u64 0, .int .u64 0, .bool false] 50) ⟨⟨Blk.alloc (Blk.of_eq (Blk.set (Blk.set (Blk.set B2.out 2 _) 2 _) 1 _) (by simp [hx.out])) _, Blk.new' (by simp), Chg.alloc (Chg.setCell (Chg.setCell (Chg.setCell (Chg.refl _ w1) (.inl hF) _) (.inl hF) _) (.inl hF) _) _⟩, Blk.alloc (Blk.set_other (Blk.set_other (Blk.set_other B4.out (by have := XS.out; show x4 ≠ x2; omega) _) (by have := XS.out; show x4 ≠ x2; omega) _) (by have := XS.out; show x4 ≠ x2; omega) _) _, Blk.alloc (Blk.set_other (Blk.set_other (Blk.set_other B5.out (by have := XS.out; show x5 ≠ x2; omega) _) (by have := XS.out; show x5 ≠ x2; omega) _) (by have := XS.out; show x5 ≠ x2; omega) _) _⟩ ?_
    intro W HI
    clear hF
    have HC := hid HI.1.drew
    have D4 := hid HI.2.1.drew
    have D5 := hid HI.2.2.drew
    clear HI
    refine wp_region_anyC (n := 4) (Cls w.heap.size W0.heap.size w1 x2 w1.heap.size #[.int .u64 h, .int .i64 1, .int .i64 (topLv c B1.last.old), .int .u64 z, .bool false] #[.int .i64 c.th, .int .i64 c.sl, .int .i64 c.cp, .int .i64 c.he, .int .i64 c.ke, .int .i64 c.ev, .int .i64 c.la, .slice A1 B1.cells.length cap1, .int .i64 B1.count, .int .i64 B1.last.kind, .int .i64 B1.last.cell, .int .u64 B1.last.via, .int .u64 B1.last.old, .int .u64 B1.last.new, .bool B1.last.done]) (by kernel_rfl) rfl ?_
    generalize World.drew _ = Wd at *
    refine anyC_quiet (a1 := ?a3) (by kernel_rfl) 2 [0, 1] _ _ _ (by kernel_rfl) (by kernel_rfl) HC.out ?_ ?_
    rotate_left
    · intro w' g'
      have hne : Nonempty (St (· = w')) := ⟨⟨w', rfl⟩⟩
      have X3 := g'.x
      obtain ⟨u0, u1, u2, u3, u4⟩ := st5 (X3)
      clear X3
      have X3 := g'.m
      obtain ⟨y0, y1, y2, y3, y4, y5, y6, y7, y8, y9, y10, y11, y12, y13, y14⟩ := st15 (X3)
      clear X3
      clear g'
      conv => arg 5; simp only [picked, List.filterMap_cons, List.filterMap_nil, List.getElem?_toArray, List.getElem?_cons_zero, List.getElem?_cons_succ]
      show wpQuiet _ _ _ _ [_, _] _
      repeat (go_big_quiet_step (fail))
      refine wpQuiet_nil ?_
      rfl
    obtain ⟨q0, q1, q2, q3, q4⟩ := cells5 (D4.out)
    have ql := D4.out.lt
    have qf := fun i => Blk.free D4.out i
    refine anyC_alone 2 HC.out (by kernel_rfl) (by kernel_rfl) ?_
    conv => arg 4; simp only [picked, List.filterMap_cons, List.filterMap_nil, List.getElem?_toArray, List.getElem?_cons_zero, List.getElem?_cons_succ]
    show wpList _ _ _ [_] _ _
    go_wp2_with fail
    clear q0 q1 q2 q3 q4 ql qf
    have E4 : Hid (Blk (((((Wd.setCell ⟨x4, 0, none⟩ (.int .u64 h)).setCell ⟨x4, 1, none⟩ (.int .i64 1)).setCell ⟨x4, 2, none⟩ (.int .i64 (topLv c B1.last.old))).setCell ⟨x4, 3, none⟩ (.int .u64 z)).setCell ⟨x4, 4, none⟩ (.bool false)) x4 #[.int .u64 h, .int .i64 1, .int .i64 (topLv c B1.last.old), .int .u64 z, .bool false] 84) := hid (blk_put5 D4.out (.int .u64 h) (.int .i64 1) (.int .i64 (topLv c B1.last.old)) (.int .u64 z) (.bool false))
    have HC4 := hid (chg_put5 Wd x4 (.int .u64 h) (.int .i64 1) (.int .i64 (topLv c B1.last.old)) (.int .u64 z) (.bool false))
    have E5 := hid (Blk.chg D5.out HC4.out (by have := XS.out; omega))
    have HC2 := hid (HC.out.put HC4.out (by have := XS.out; omega) (by have := LL.out; omega) (by have := XS.out; omega) (by have := XS.out; omega))
    generalize (((((Wd.setCell ⟨x4, 0, none⟩ (.int .u64 h)).setCell ⟨x4, 1, none⟩ (.int .i64 1)).setCell ⟨x4, 2, none⟩ (.int .i64 (topLv c B1.last.old))).setCell ⟨x4, 3, none⟩ (.int .u64 z)).setCell ⟨x4, 4, none⟩ (.bool false)) = Wf at *
    clear HC HC4 D4 D5
    refine ⟨HC2.out, ?_⟩
    obtain ⟨q0, q1, q2, q3, q4, q5, q6, q7, q8, q9, q10, q11, q12, q13, q14⟩ := cells15 (E5.out)
    have ql := E5.out.lt
    have qf := fun i => Blk.free E5.out i
    refine anyC_alone 3 HC2.out (by kernel_rfl) (by kernel_rfl) ?_
    conv => arg 4; simp only [picked, List.filterMap_cons, List.filterMap_nil, List.getElem?_toArray, List.getElem?_cons_zero, List.getElem?_cons_succ]
    show wpList _ _ _ [_] _ _
    go_wp2_with fail
    clear q0 q1 q2 q3 q4 q5 q6 q7 q8 q9 q10 q11 q12 q13 q14 ql qf
    have F5 : Hid (Blk (((((((((((((((Wf.setCell ⟨x5, 0, none⟩ (.int .i64 c.th)).setCell ⟨x5, 1, none⟩ (.int .i64 c.sl)).setCell ⟨x5, 2, none⟩ (.int .i64 c.cp)).setCell ⟨x5, 3, none⟩ (.int .i64 c.he)).setCell ⟨x5, 4, none⟩ (.int .i64 c.ke)).setCell ⟨x5, 5, none⟩ (.int .i64 c.ev)).setCell ⟨x5, 6, none⟩ (.int .i64 c.la)).setCell ⟨x5, 7, none⟩ (.slice A1 B1.cells.length cap1)).setCell ⟨x5, 8, none⟩ (.int .i64 B1.count)).setCell ⟨x5, 9, none⟩ (.int .i64 B1.last.kind)).setCell ⟨x5, 10, none⟩ (.int .i64 B1.last.cell)).setCell ⟨x5, 11, none⟩ (.int .u64 B1.last.via)).setCell ⟨x5, 12, none⟩ (.int .u64 B1.last.old)).setCell ⟨x5, 13, none⟩ (.int .u64 B1.last.new)).setCell ⟨x5, 14, none⟩ (.bool B1.last.done)) x5 #[.int .i64 c.th, .int .i64 c.sl, .int .i64 c.cp, .int .i64 c.he, .int .i64 c.ke, .int .i64 c.ev, .int .i64 c.la, .slice A1 B1.cells.length cap1, .int .i64 B1.count, .int .i64 B1.last.kind, .int .i64 B1.last.cell, .int .u64 B1.last.via, .int .u64 B1.last.old, .int .u64 B1.last.new, .bool B1.last.done] 50) := hid (blk_put15 E5.out (.int .i64 c.th) (.int .i64 c.sl) (.int .i64 c.cp) (.int .i64 c.he) (.int .i64 c.ke) (.int .i64 c.ev) (.int .i64 c.la) (.slice A1 B1.cells.length cap1) (.int .i64 B1.count) (.int .i64 B1.last.kind) (.int .i64 B1.last.cell) (.int .u64 B1.last.via) (.int .u64 B1.last.old) (.int .u64 B1.last.new) (.bool B1.last.done))
    have HC5 := hid (chg_put15 Wf x5 (.int .i64 c.th) (.int .i64 c.sl) (.int .i64 c.cp) (.int .i64 c.he) (.int .i64 c.ke) (.int .i64 c.ev) (.int .i64 c.la) (.slice A1 B1.cells.length cap1) (.int .i64 B1.count) (.int .i64 B1.last.kind) (.int .i64 B1.last.cell) (.int .u64 B1.last.via) (.int .u64 B1.last.old) (.int .u64 B1.last.new) (.bool B1.last.done))
    have F4 := hid (Blk.chg E4.out HC5.out (by have := XS.out; omega))
    have HC3 := hid (HC2.out.put HC5.out (by have := XS.out; omega) (by have := LL.out; omega) (by have := XS.out; omega) (by have := XS.out; omega))
    generalize (((((((((((((((Wf.setCell ⟨x5, 0, none⟩ (.int .i64 c.th)).setCell ⟨x5, 1, none⟩ (.int .i64 c.sl)).setCell ⟨x5, 2, none⟩ (.int .i64 c.cp)).setCell ⟨x5, 3, none⟩ (.int .i64 c.he)).setCell ⟨x5, 4, none⟩ (.int .i64 c.ke)).setCell ⟨x5, 5, none⟩ (.int .i64 c.ev)).setCell ⟨x5, 6, none⟩ (.int .i64 c.la)).setCell ⟨x5, 7, none⟩ (.slice A1 B1.cells.length cap1)).setCell ⟨x5, 8, none⟩ (.int .i64 B1.count)).setCell ⟨x5, 9, none⟩ (.int .i64 B1.last.kind)).setCell ⟨x5, 10, none⟩ (.int .i64 B1.last.cell)).setCell ⟨x5, 11, none⟩ (.int .u64 B1.last.via)).setCell ⟨x5, 12, none⟩ (.int .u64 B1.last.old)).setCell ⟨x5, 13, none⟩ (.int .u64 B1.last.new)).setCell ⟨x5, 14, none⟩ (.bool B1.last.done)) = Wg at *
    clear HC2 HC5 E4 E5
    refine ⟨HC3.out, ?_⟩
    refine ⟨by kernel_rfl, ?_⟩
    go_wp2_with fail
    refine bodyPost_ret (v := .tuple #[RHS.val ⟨h, 1, topLv c B1.last.old, z, false⟩, mval c (.slice A1 B1.cells.length cap1) B1]) (res45 _ x4 x5 _ ⟨h, 1, topLv c B1.last.old, z, false⟩ c (.slice A1 B1.cells.length cap1) B1 ⟨_, _, _, rfl⟩ rfl rfl F4.out F5.out) rfl ⟨(.slice A1 B1.cells.length cap1), rfl, ?_, ?_, HF.out⟩
    · exact HW1.out.keep HC3.out.chg (fun a n cc e _ hk => NX.out a n cc e _ hk.1 hk.2 rfl)
    · exact Gr.step GW1.out HC3.out.chg (fun k hk => hk.1)
  · rename_i k1 k2 _ _
    exact absurd k2 (by have := HOK.out.2.2.2.2.2.2.1; have := HOK.out.2.2.2.2.2.2.2.1; rw [w64 (by omega) (by omega)]; omega)
  · rename_i k1 k2 _ _
    have K := hid (And.intro k1 k2)
    clear k1 k2
    have hx := hid (tall3 HOK.out HU.out K.out.1)
    clear p0 p1 p2 p3 p4 m0 m1 m2 m3 m4 m5 m6 m7 m8 m9 m10 m11 m12 m13 m14 pf l2 l3 l4 l5
    have hF : w.heap.size ≤ x2 ∧ x2 < W0.heap.size := by have := XS.out; omega
    refine wp_gen (fun W => Cls w.heap.size W0.heap.size w1 x2 w1.heap.size #[.int .u64 h, .int .i64 1, .int .i64 (topLv c B1.last.old), .int .u64 z, .bool false] #[.int .i64 c.th, .int .i64 c.sl, .int .i64 c.cp, .int .i64 c.he, .int .i64 c.ke, .int .i64 c.ev, .int .i64 c.la, .slice A1 B1.cells.length cap1, .int .i64 B1.count, .int .i64 B1.last.kind, .int .i64 B1.last.cell, .int .u64 B1.last.via, .int .u64 B1.last.old, .int .u64 B1.last.new, .bool B1.last.done] W ∧ Blk W x4 #[.int .u64 0, .int .i64 0, .int .i64 0, .int .u64 0, .bool false] 84 ∧ Blk W x5 #[.int .i64 0, .int .i64 0, .int .i64 0, .int .i64 0, .int .i64 0, .int .i64 0, .int .i64 0, .slice none 0 0, .int .i64 0, .int .i64 0, .int .i64 0, .int .u64 0, .int .u64 0, .int .u64 0, .bool false] 50) ⟨⟨Blk.alloc (Blk.of_eq (Blk.set (Blk.set B2.out 2 _) 1 _) (by simp [hx.out])) _, Blk.new' (by simp), Chg.alloc (Chg.setCell (Chg.setCell (Chg.refl _ w1) (.inl hF) _) (.inl hF) _) _⟩, Blk.alloc (Blk.set_other (Blk.set_other B4.out (by have := XS.out; show x4 ≠ x2; omega) _) (by have := XS.out; show x4 ≠ x2; omega) _) _, Blk.alloc (Blk.set_other (Blk.set_other B5.out (by have := XS.out; show x5 ≠ x2; omega) _) (by have := XS.out; show x5 ≠ x2; omega) _) _⟩ ?_
    intro W HI
    clear hF
    have HC := hid HI.1.drew
    have D4 := hid HI.2.1.drew
    have D5 := hid HI.2.2.drew
    clear HI
    refine wp_region_anyC (n := 4) (Cls w.heap.size W0.heap.size w1 x2 w1.heap.size #[.int .u64 h, .int .i64 1, .int .i64 (topLv c B1.last.old), .int .u64 z, .bool false] #[.int .i64 c.th, .int .i64 c.sl, .int .i64 c.cp, .int .i64 c.he, .int .i64 c.ke, .int .i64 c.ev, .int .i64 c.la, .slice A1 B1.cells.length cap1, .int .i64 B1.count, .int .i64 B1.last.kind, .int .i64 B1.last.cell, .int .u64 B1.last.via, .int .u64 B1.last.old, .int .u64 B1.last.new, .bool B1.last.done]) (by kernel_rfl) rfl ?_
    generalize World.drew _ = Wd at *
    refine anyC_quiet (a1 := ?a4) (by kernel_rfl) 2 [0, 1] _ _ _ (by kernel_rfl) (by kernel_rfl) HC.out ?_ ?_
    rotate_left
    · intro w' g'
      have hne : Nonempty (St (· = w')) := ⟨⟨w', rfl⟩⟩
      have X3 := g'.x
      obtain ⟨u0, u1, u2, u3, u4⟩ := st5 (X3)
      clear X3
      have X3 := g'.m
      obtain ⟨y0, y1, y2, y3, y4, y5, y6, y7, y8, y9, y10, y11, y12, y13, y14⟩ := st15 (X3)
      clear X3
      clear g'
      conv => arg 5; simp only [picked, List.filterMap_cons, List.filterMap_nil, List.getElem?_toArray, List.getElem?_cons_zero, List.getElem?_cons_succ]
      show wpQuiet _ _ _ _ [_, _] _
      repeat (go_big_quiet_step (fail))
      refine wpQuiet_nil ?_
      rfl
    obtain ⟨q0, q1, q2, q3, q4⟩ := cells5 (D4.out)
    have ql := D4.out.lt
    have qf := fun i => Blk.free D4.out i
    refine anyC_alone 2 HC.out (by kernel_rfl) (by kernel_rfl) ?_
    conv => arg 4; simp only [picked, List.filterMap_cons, List.filterMap_nil, List.getElem?_toArray, List.getElem?_cons_zero, List.getElem?_cons_succ]
    show wpList _ _ _ [_] _ _
    go_wp2_with fail
    clear q0 q1 q2 q3 q4 ql qf
    have E4 : Hid (Blk (((((Wd.setCell ⟨x4, 0, none⟩ (.int .u64 h)).setCell ⟨x4, 1, none⟩ (.int .i64 1)).setCell ⟨x4, 2, none⟩ (.int .i64 (topLv c B1.last.old))).setCell ⟨x4, 3, none⟩ (.int .u64 z)).setCell ⟨x4, 4, none⟩ (.bool false)) x4 #[.int .u64 h, .int .i64 1, .int .i64 (topLv c B1.last.old), .int .u64 z, .bool false] 84) := hid (blk_put5 D4.out (.int .u64 h) (.int .i64 1) (.int .i64 (topLv c B1.last.old)) (.int .u64 z) (.bool false))
    have HC4 := hid (chg_put5 Wd x4 (.int .u64 h) (.int .i64 1) (.int .i64 (topLv c B1.last.old)) (.int .u64 z) (.bool false))
    have E5 := hid (Blk.chg D5.out HC4.out (by have := XS.out; omega))
    have HC2 := hid (HC.out.put HC4.out (by have := XS.out; omega) (by have := LL.out; omega) (by have := XS.out; omega) (by have := XS.out; omega))
    generalize (((((Wd.setCell ⟨x4, 0, none⟩ (.int .u64 h)).setCell ⟨x4, 1, none⟩ (.int .i64 1)).setCell ⟨x4, 2, none⟩ (.int .i64 (topLv c B1.last.old))).setCell ⟨x4, 3, none⟩ (.int .u64 z)).setCell ⟨x4, 4, none⟩ (.bool false)) = Wf at *
    clear HC HC4 D4 D5
    refine ⟨HC2.out, ?_⟩
    obtain ⟨q0, q1, q2, q3, q4, q5, q6, q7, q8, q9, q10, q11, q12, q13, q14⟩ := cells15 (E5.out)
    have ql := E5.out.lt
    have qf := fun i => Blk.free E5.out i
    refine anyC_alone 3 HC2.out (by kernel_rfl) (by kernel_rfl) ?_
    conv => arg 4; simp only [picked, List.filterMap_cons, List.filterMap_nil, List.getElem?_toArray, List.getElem?_cons_zero, List.getElem?_cons_succ]
    show wpList _ _ _ [_] _ _
    go_wp2_with fail
    clear q0 q1 q2 q3 q4 q5 q6 q7 q8 q9 q10 q11 q12 q13 q14 ql qf
    have F5 : Hid (Blk (((((((((((((((Wf.setCell ⟨x5, 0, none⟩ (.int .i64 c.th)).setCell ⟨x5, 1, none⟩ (.int .i64 c.sl)).setCell ⟨x5, 2, none⟩ (.int .i64 c.cp)).setCell ⟨x5, 3, none⟩ (.int .i64 c.he)).setCell ⟨x5, 4, none⟩ (.int .i64 c.ke)).setCell ⟨x5, 5, none⟩ (.int .i64 c.ev)).setCell ⟨x5, 6, none⟩ (.int .i64 c.la)).setCell ⟨x5, 7, none⟩ (.slice A1 B1.cells.length cap1)).setCell ⟨x5, 8, none⟩ (.int .i64 B1.count)).setCell ⟨x5, 9, none⟩ (.int .i64 B1.last.kind)).setCell ⟨x5, 10, none⟩ (.int .i64 B1.last.cell)).setCell ⟨x5, 11, none⟩ (.int .u64 B1.last.via)).setCell ⟨x5, 12, none⟩ (.int .u64 B1.last.old)).setCell ⟨x5, 13, none⟩ (.int .u64 B1.last.new)).setCell ⟨x5, 14, none⟩ (.bool B1.last.done)) x5 #[.int .i64 c.th, .int .i64 c.sl, .int .i64 c.cp, .int .i64 c.he, .int .i64 c.ke, .int .i64 c.ev, .int .i64 c.la, .slice A1 B1.cells.length cap1, .int .i64 B1.count, .int .i64 B1.last.kind, .int .i64 B1.last.cell, .int .u64 B1.last.via, .int .u64 B1.last.old, .int .u64 B1.last.new, .bool B1.last.done] 50) := hid (blk_put15 E5.out (.int .i64 c.th) (.int .i64 c.sl) (.int .i64 c.cp) (.int .i64 c.he) (.int .i64 c.ke) (.int .i64 c.ev) (.int .i64 c.la) (.slice A1 B1.cells.length cap1) (.int .i64 B1.count) (.int .i64 B1.last.kind) (.int .i64 B1.last.cell) (.int .u64 B1.last.via) (.int .u64 B1.last.old) (.int .u64 B1.last.new) (.bool B1.last.done))
    have HC5 := hid (chg_put15 Wf x5 (.int .i64 c.th) (.int .i64 c.sl) (.int .i64 c.cp) (.int .i64 c.he) (.int .i64 c.ke) (.int .i64 c.ev) (.int .i64 c.la) (.slice A1 B1.cells.length cap1) (.int .i64 B1.count) (.int .i64 B1.last.kind) (.int .i64 B1.last.cell) (.int .u64 B1.last.via) (.int .u64 B1.last.old) (.int .u64 B1.last.new) (.bool B1.last.done))
    have F4 := hid (Blk.chg E4.out HC5.out (by have := XS.out; omega))
    have HC3 := hid (HC2.out.put HC5.out (by have := XS.out; omega) (by have := LL.out; omega) (by have := XS.out; omega) (by have := XS.out; omega))
    generalize (((((((((((((((Wf.setCell ⟨x5, 0, none⟩ (.int .i64 c.th)).setCell ⟨x5, 1, none⟩ (.int .i64 c.sl)).setCell ⟨x5, 2, none⟩ (.int .i64 c.cp)).setCell ⟨x5, 3, none⟩ (.int .i64 c.he)).setCell ⟨x5, 4, none⟩ (.int .i64 c.ke)).setCell ⟨x5, 5, none⟩ (.int .i64 c.ev)).setCell ⟨x5, 6, none⟩ (.int .i64 c.la)).setCell ⟨x5, 7, none⟩ (.slice A1 B1.cells.length cap1)).setCell ⟨x5, 8, none⟩ (.int .i64 B1.count)).setCell ⟨x5, 9, none⟩ (.int .i64 B1.last.kind)).setCell ⟨x5, 10, none⟩ (.int .i64 B1.last.cell)).setCell ⟨x5, 11, none⟩ (.int .u64 B1.last.via)).setCell ⟨x5, 12, none⟩ (.int .u64 B1.last.old)).setCell ⟨x5, 13, none⟩ (.int .u64 B1.last.new)).setCell ⟨x5, 14, none⟩ (.bool B1.last.done)) = Wg at *
    clear HC2 HC5 E4 E5
    refine ⟨HC3.out, ?_⟩
    refine ⟨by kernel_rfl, ?_⟩
    go_wp2_with fail
    refine bodyPost_ret (v := .tuple #[RHS.val ⟨h, 1, topLv c B1.last.old, z, false⟩, mval c (.slice A1 B1.cells.length cap1) B1]) (res45 _ x4 x5 _ ⟨h, 1, topLv c B1.last.old, z, false⟩ c (.slice A1 B1.cells.length cap1) B1 ⟨_, _, _, rfl⟩ rfl rfl F4.out F5.out) rfl ⟨(.slice A1 B1.cells.length cap1), rfl, ?_, ?_, HF.out⟩
    · exact HW1.out.keep HC3.out.chg (fun a n cc e _ hk => NX.out a n cc e _ hk.1 hk.2 rfl)
    · exact Gr.step GW1.out HC3.out.chg (fun k hk => hk.1)

end Go.Proofs.YthbkncklliiooaaH

namespace Go.Proofs.YthbkncklliiooaaH
set_option linter.unusedVariables false
set_option linter.unusedSimpArgs false
open Go.RowKit Go.Proofs.Ythbkncklliiooaa.Q

set_option maxRecDepth 100000 in
set_option maxHeartbeats 2000000 in
theorem rstep_next_yes (c : Cf) (s : Value) (B : Bk) (h nx lv z : Int) (dn : Bool) (w : World) (hv : Words w s B.cells) (hne : B.cells ≠ []) (hd : dn = false) (hn : nx = 1) (hl0 : 0 ≤ lv) (hl1 : lv ≤ 10) (B1 : Bk) (hu : U64 B1.last.old) (hm : hM B1.last.old = true) (hl : ∀ s w, Words w s B.cells → Calls Try.prog 68 #[mval c s B, .int .u64 h, .int .i64 (wrap64 (6 + lv))] w (MTold w c s B1 (.int .u64 B1.last.old))) :
    Calls Try.prog 45 #[.agg #[.int .u64 h, .int .i64 nx, .int .i64 lv, .int .u64 z, .bool dn], mval c s B] w (STold w c s ⟨h, 1, lv - 1, z, lv == 0⟩ B1) := by
  obtain ⟨A, cap, rfl⟩ := hv.slice
  have HV := hid hv
  have HN := hid hne
  clear hv hne
  have hld := hid (hl (.slice A B.cells.length cap))
  have hmk0 := rmarked_any B1.last.old hu
  rw [hm] at hmk0
  have HMK := hid hmk0
  clear hmk0 hm hu
  have HDN := hid (rdown_any h 1 lv z false hl0 hl1)
  clear hl hl0 hl1
  unfold mval at hld
  subst hd
  subst hn
  unfold mval
  go_enter Try.func45, Try.ntmps45
  go_wp2_with fail
  have G0 := hid (((((Gr.refl w).alloc (.cells #[.int .u64 h, .int .i64 1, .int .i64 lv, .int .u64 z, .bool false] 84)).alloc (.cells #[.int .i64 c.th, .int .i64 c.sl, .int .i64 c.cp, .int .i64 c.he, .int .i64 c.ke, .int .i64 c.ev, .int .i64 c.la, .slice A B.cells.length cap, .int .i64 B.count, .int .i64 B.last.kind, .int .i64 B.last.cell, .int .u64 B.last.via, .int .u64 B.last.old, .int .u64 B.last.new, .bool B.last.done] 50)).alloc (.cells #[.int .u64 0, .int .i64 0, .int .i64 0, .int .u64 0, .bool false] 84)).alloc (.cells #[.int .i64 0, .int .i64 0, .int .i64 0, .int .i64 0, .int .i64 0, .int .i64 0, .int .i64 0, .slice none 0 0, .int .i64 0, .int .i64 0, .int .i64 0, .int .u64 0, .int .u64 0, .int .u64 0, .bool false] 50))
  have A2 : Hid (Blk ((((w.alloc (.cells #[.int .u64 h, .int .i64 1, .int .i64 lv, .int .u64 z, .bool false] 84)).alloc (.cells #[.int .i64 c.th, .int .i64 c.sl, .int .i64 c.cp, .int .i64 c.he, .int .i64 c.ke, .int .i64 c.ev, .int .i64 c.la, .slice A B.cells.length cap, .int .i64 B.count, .int .i64 B.last.kind, .int .i64 B.last.cell, .int .u64 B.last.via, .int .u64 B.last.old, .int .u64 B.last.new, .bool B.last.done] 50)).alloc (.cells #[.int .u64 0, .int .i64 0, .int .i64 0, .int .u64 0, .bool false] 84)).alloc (.cells #[.int .i64 0, .int .i64 0, .int .i64 0, .int .i64 0, .int .i64 0, .int .i64 0, .int .i64 0, .slice none 0 0, .int .i64 0, .int .i64 0, .int .i64 0, .int .u64 0, .int .u64 0, .int .u64 0, .bool false] 50)) w.heap.size #[.int .u64 h, .int .i64 1, .int .i64 lv, .int .u64 z, .bool false] 84) := hid ((((Blk.new w #[.int .u64 h, .int .i64 1, .int .i64 lv, .int .u64 z, .bool false] 84).alloc _).alloc _).alloc _)
  have A3 : Hid (Blk ((((w.alloc (.cells #[.int .u64 h, .int .i64 1, .int .i64 lv, .int .u64 z, .bool false] 84)).alloc (.cells #[.int .i64 c.th, .int .i64 c.sl, .int .i64 c.cp, .int .i64 c.he, .int .i64 c.ke, .int .i64 c.ev, .int .i64 c.la, .slice A B.cells.length cap, .int .i64 B.count, .int .i64 B.last.kind, .int .i64 B.last.cell, .int .u64 B.last.via, .int .u64 B.last.old, .int .u64 B.last.new, .bool B.last.done] 50)).alloc (.cells #[.int .u64 0, .int .i64 0, .int .i64 0, .int .u64 0, .bool false] 84)).alloc (.cells #[.int .i64 0, .int .i64 0, .int .i64 0, .int .i64 0, .int .i64 0, .int .i64 0, .int .i64 0, .slice none 0 0, .int .i64 0, .int .i64 0, .int .i64 0, .int .u64 0, .int .u64 0, .int .u64 0, .bool false] 50)) (w.heap.size + 1) #[.int .i64 c.th, .int .i64 c.sl, .int .i64 c.cp, .int .i64 c.he, .int .i64 c.ke, .int .i64 c.ev, .int .i64 c.la, .slice A B.cells.length cap, .int .i64 B.count, .int .i64 B.last.kind, .int .i64 B.last.cell, .int .u64 B.last.via, .int .u64 B.last.old, .int .u64 B.last.new, .bool B.last.done] 50) := hid (((Blk.new' (by simp)).alloc _).alloc _)
  have A4 : Hid (Blk ((((w.alloc (.cells #[.int .u64 h, .int .i64 1, .int .i64 lv, .int .u64 z, .bool false] 84)).alloc (.cells #[.int .i64 c.th, .int .i64 c.sl, .int .i64 c.cp, .int .i64 c.he, .int .i64 c.ke, .int .i64 c.ev, .int .i64 c.la, .slice A B.cells.length cap, .int .i64 B.count, .int .i64 B.last.kind, .int .i64 B.last.cell, .int .u64 B.last.via, .int .u64 B.last.old, .int .u64 B.last.new, .bool B.last.done] 50)).alloc (.cells #[.int .u64 0, .int .i64 0, .int .i64 0, .int .u64 0, .bool false] 84)).alloc (.cells #[.int .i64 0, .int .i64 0, .int .i64 0, .int .i64 0, .int .i64 0, .int .i64 0, .int .i64 0, .slice none 0 0, .int .i64 0, .int .i64 0, .int .i64 0, .int .u64 0, .int .u64 0, .int .u64 0, .bool false] 50)) (w.heap.size + 1 + 1) #[.int .u64 0, .int .i64 0, .int .i64 0, .int .u64 0, .bool false] 84) := hid ((Blk.new' (by simp)).alloc _)
  have A5 : Hid (Blk ((((w.alloc (.cells #[.int .u64 h, .int .i64 1, .int .i64 lv, .int .u64 z, .bool false] 84)).alloc (.cells #[.int .i64 c.th, .int .i64 c.sl, .int .i64 c.cp, .int .i64 c.he, .int .i64 c.ke, .int .i64 c.ev, .int .i64 c.la, .slice A B.cells.length cap, .int .i64 B.count, .int .i64 B.last.kind, .int .i64 B.last.cell, .int .u64 B.last.via, .int .u64 B.last.old, .int .u64 B.last.new, .bool B.last.done] 50)).alloc (.cells #[.int .u64 0, .int .i64 0, .int .i64 0, .int .u64 0, .bool false] 84)).alloc (.cells #[.int .i64 0, .int .i64 0, .int .i64 0, .int .i64 0, .int .i64 0, .int .i64 0, .int .i64 0, .slice none 0 0, .int .i64 0, .int .i64 0, .int .i64 0, .int .u64 0, .int .u64 0, .int .u64 0, .bool false] 50)) (w.heap.size + 1 + 1 + 1) #[.int .i64 0, .int .i64 0, .int .i64 0, .int .i64 0, .int .i64 0, .int .i64 0, .int .i64 0, .slice none 0 0, .int .i64 0, .int .i64 0, .int .i64 0, .int .u64 0, .int .u64 0, .int .u64 0, .bool false] 50) := hid (Blk.new' (by simp))
  generalize ((((w.alloc (.cells #[.int .u64 h, .int .i64 1, .int .i64 lv, .int .u64 z, .bool false] 84)).alloc (.cells #[.int .i64 c.th, .int .i64 c.sl, .int .i64 c.cp, .int .i64 c.he, .int .i64 c.ke, .int .i64 c.ev, .int .i64 c.la, .slice A B.cells.length cap, .int .i64 B.count, .int .i64 B.last.kind, .int .i64 B.last.cell, .int .u64 B.last.via, .int .u64 B.last.old, .int .u64 B.last.new, .bool B.last.done] 50)).alloc (.cells #[.int .u64 0, .int .i64 0, .int .i64 0, .int .u64 0, .bool false] 84)).alloc (.cells #[.int .i64 0, .int .i64 0, .int .i64 0, .int .i64 0, .int .i64 0, .int .i64 0, .int .i64 0, .slice none 0 0, .int .i64 0, .int .i64 0, .int .i64 0, .int .u64 0, .int .u64 0, .int .u64 0, .bool false] 50)) = W0 at *
  have XS0 : w.heap.size + 1 + 1 + 1 < W0.heap.size := A5.out.lt
  generalize e3 : w.heap.size + 1 = x3 at *
  generalize e4 : x3 + 1 = x4 at *
  generalize e5 : x4 + 1 = x5 at *
  generalize e2 : w.heap.size = x2 at *
  have XS : Hid (x2 = w.heap.size ∧ x2 < x3 ∧ x3 < x4 ∧ x4 < x5 ∧ x5 < W0.heap.size) := hid ⟨e2.symm, by omega, by omega, by omega, XS0⟩
  clear XS0 e2 e3 e4 e5
  refine (hld.out _ (HV.out.gr G0.out)).mono ?_
  rintro e w1 ⟨s1, rfl, hw1, g1, hf1⟩
  obtain ⟨A1, cap1, rfl⟩ := hw1.slice
  have HW1 := hid hw1
  have GW1 := hid (Gr.trans G0.out g1)
  have NX := hid (Fresh.nx hf1 HV.out HN.out (Nat.le_refl _))
  have HF := hid (Fresh.mono hf1 G0.out.size)
  have B2 := hid (Blk.gr A2.out g1)
  have B3 := hid (Blk.gr A3.out g1)
  have B4 := hid (Blk.gr A4.out g1)
  have B5 := hid (Blk.gr A5.out g1)
  have sz := g1.size
  have l2 : x2 < w1.heap.size := by have := XS.out; omega
  have l3 : x3 < w1.heap.size := by have := XS.out; omega
  have l4 : x4 < w1.heap.size := by have := XS.out; omega
  have l5 : x5 < w1.heap.size := by have := XS.out; omega
  have LL : Hid (x2 < w1.heap.size ∧ x3 < w1.heap.size ∧ x4 < w1.heap.size ∧ x5 < w1.heap.size) := hid ⟨l2, l3, l4, l5⟩
  clear hw1 g1 hf1 sz
  unfold mval
  obtain ⟨p0, p1, p2, p3, p4⟩ := cells5 (B2.out)
  obtain ⟨m0, m1, m2, m3, m4, m5, m6, m7, m8, m9, m10, m11, m12, m13, m14⟩ := cells15 (B3.out)
  have pf := fun i => Blk.free B2.out i
  go_wp2_with fail
  clear p0 p1 p2 p3 p4 m0 m1 m2 m3 m4 m5 m6 m7 m8 m9 m10 m11 m12 m13 m14 pf l2 l3 l4 l5
  refine calls_gen (fun W => Cls w.heap.size W0.heap.size w1 x2 w1.heap.size #[.int .u64 h, .int .i64 1, .int .i64 lv, .int .u64 z, .bool false] #[.int .i64 c.th, .int .i64 c.sl, .int .i64 c.cp, .int .i64 c.he, .int .i64 c.ke, .int .i64 c.ev, .int .i64 c.la, .slice A1 B1.cells.length cap1, .int .i64 B1.count, .int .i64 B1.last.kind, .int .i64 B1.last.cell, .int .u64 B1.last.via, .int .u64 B1.last.old, .int .u64 B1.last.new, .bool B1.last.done] W ∧ Blk W x4 #[.int .u64 0, .int .i64 0, .int .i64 0, .int .u64 0, .bool false] 84 ∧ Blk W x5 #[.int .i64 0, .int .i64 0, .int .i64 0, .int .i64 0, .int .i64 0, .int .i64 0, .int .i64 0, .slice none 0 0, .int .i64 0, .int .i64 0, .int .i64 0, .int .u64 0, .int .u64 0, .int .u64 0, .bool false] 50) ⟨⟨Blk.alloc B2.out _, Blk.new' (by simp), Chg.alloc (Chg.refl _ _) _⟩, Blk.alloc B4.out _, Blk.alloc B5.out _⟩ ?_
  intro W HI0
  have HI1 := hid HI0
  clear HI0
  refine (HMK.out _).mono ?_
  rintro e W2 ⟨rfl, g2⟩
  have HI2 := hid (And.intro (HI1.out.1.gr g2) (And.intro (Blk.gr HI1.out.2.1 g2) (Blk.gr HI1.out.2.2 g2)))
  clear g2 HI1
  go_wp2_with fail
  have HI := HI2.out
  clear HI2
  have HC := hid HI.1.drew
  have D4 := hid HI.2.1.drew
  have D5 := hid HI.2.2.drew
  clear HI
  refine wp_region_anyC (n := 5) (Cls w.heap.size W0.heap.size w1 x2 w1.heap.size #[.int .u64 h, .int .i64 1, .int .i64 lv, .int .u64 z, .bool false] #[.int .i64 c.th, .int .i64 c.sl, .int .i64 c.cp, .int .i64 c.he, .int .i64 c.ke, .int .i64 c.ev, .int .i64 c.la, .slice A1 B1.cells.length cap1, .int .i64 B1.count, .int .i64 B1.last.kind, .int .i64 B1.last.cell, .int .u64 B1.last.via, .int .u64 B1.last.old, .int .u64 B1.last.new, .bool B1.last.done]) (by kernel_rfl) rfl ?_
  generalize World.drew _ = Wd at *
  refine anyC_quiet (a1 := ?a5) (by kernel_rfl) 3 [0, 2] _ _ _ (by kernel_rfl) (by kernel_rfl) HC.out ?_ ?_
  rotate_left
  · intro w' g'
    have hne : Nonempty (St (· = w')) := ⟨⟨w', rfl⟩⟩
    have X3 := g'.x
    obtain ⟨u0, u1, u2, u3, u4⟩ := st5 (X3)
    clear X3
    have X3 := g'.m
    obtain ⟨y0, y1, y2, y3, y4, y5, y6, y7, y8, y9, y10, y11, y12, y13, y14⟩ := st15 (X3)
    clear X3
    clear g'
    conv => arg 5; simp only [picked, List.filterMap_cons, List.filterMap_nil, List.getElem?_toArray, List.getElem?_cons_zero, List.getElem?_cons_succ]
    show wpQuiet _ _ _ _ [_, _] _
    repeat (go_big_quiet_step (fail))
    refine wpQuiet_nil ?_
    rfl
  refine anyC_alone 1 HC.out (by kernel_rfl) (by kernel_rfl) ?_
  conv => arg 4; simp only [picked, List.filterMap_cons, List.filterMap_nil, List.getElem?_toArray, List.getElem?_cons_zero, List.getElem?_cons_succ]
  show wpList _ _ _ [_] _ _
  go_wp2_with fail
  refine (HDN.out _).mono ?_
  rintro e We ⟨rfl, ge⟩
  have HC' := hid (HC.out.gr ge)
  have D4' := hid (Blk.gr D4.out ge)
  have D5' := hid (Blk.gr D5.out ge)
  clear ge HC D4 D5
  have HC := hid HC'.out
  have D4 := hid D4'.out
  have D5 := hid D5'.out
  clear HC' D4' D5'
  go_wp2_with fail
  refine ⟨HC.out, ?_⟩
  obtain ⟨q0, q1, q2, q3, q4⟩ := cells5 (D4.out)
  have ql := D4.out.lt
  have qf := fun i => Blk.free D4.out i
  refine anyC_alone 3 HC.out (by kernel_rfl) (by kernel_rfl) ?_
  conv => arg 4; simp only [picked, List.filterMap_cons, List.filterMap_nil, List.getElem?_toArray, List.getElem?_cons_zero, List.getElem?_cons_succ]
  show wpList _ _ _ [_] _ _
  go_wp2_with fail
  clear q0 q1 q2 q3 q4 ql qf
  have E4 : Hid (Blk (((((We.setCell ⟨x4, 0, none⟩ (.int .u64 h)).setCell ⟨x4, 1, none⟩ (.int .i64 1)).setCell ⟨x4, 2, none⟩ (.int .i64 (lv - 1))).setCell ⟨x4, 3, none⟩ (.int .u64 z)).setCell ⟨x4, 4, none⟩ (.bool (lv == 0))) x4 #[.int .u64 h, .int .i64 1, .int .i64 (lv - 1), .int .u64 z, .bool (lv == 0)] 84) := hid (blk_put5 D4.out (.int .u64 h) (.int .i64 1) (.int .i64 (lv - 1)) (.int .u64 z) (.bool (lv == 0)))
  have HC4 := hid (chg_put5 We x4 (.int .u64 h) (.int .i64 1) (.int .i64 (lv - 1)) (.int .u64 z) (.bool (lv == 0)))
  have E5 := hid (Blk.chg D5.out HC4.out (by have := XS.out; omega))
  have HC2 := hid (HC.out.put HC4.out (by have := XS.out; omega) (by have := LL.out; omega) (by have := XS.out; omega) (by have := XS.out; omega))
  generalize (((((We.setCell ⟨x4, 0, none⟩ (.int .u64 h)).setCell ⟨x4, 1, none⟩ (.int .i64 1)).setCell ⟨x4, 2, none⟩ (.int .i64 (lv - 1))).setCell ⟨x4, 3, none⟩ (.int .u64 z)).setCell ⟨x4, 4, none⟩ (.bool (lv == 0))) = Wf at *
  clear HC HC4 D4 D5
  refine ⟨HC2.out, ?_⟩
  obtain ⟨q0, q1, q2, q3, q4, q5, q6, q7, q8, q9, q10, q11, q12, q13, q14⟩ := cells15 (E5.out)
  have ql := E5.out.lt
  have qf := fun i => Blk.free E5.out i
  refine anyC_alone 4 HC2.out (by kernel_rfl) (by kernel_rfl) ?_
  conv => arg 4; simp only [picked, List.filterMap_cons, List.filterMap_nil, List.getElem?_toArray, List.getElem?_cons_zero, List.getElem?_cons_succ]
  show wpList _ _ _ [_] _ _
  go_wp2_with fail
  clear q0 q1 q2 q3 q4 q5 q6 q7 q8 q9 q10 q11 q12 q13 q14 ql qf
  have F5 : Hid (Blk (((((((((((((((Wf.setCell ⟨x5, 0, none⟩ (.int .i64 c.th)).setCell ⟨x5, 1, none⟩ (.int .i64 c.sl)).setCell ⟨x5, 2, none⟩ (.int .i64 c.cp)).setCell ⟨x5, 3, none⟩ (.int .i64 c.he)).setCell ⟨x5, 4, none⟩ (.int .i64 c.ke)).setCell ⟨x5, 5, none⟩ (.int .i64 c.ev)).setCell ⟨x5, 6, none⟩ (.int .i64 c.la)).setCell ⟨x5, 7, none⟩ (.slice A1 B1.cells.length cap1)).setCell ⟨x5, 8, none⟩ (.int .i64 B1.count)).setCell ⟨x5, 9, none⟩ (.int .i64 B1.last.kind)).setCell ⟨x5, 10, none⟩ (.int .i64 B1.last.cell)).setCell ⟨x5, 11, none⟩ (.int .u64 B1.last.via)).setCell ⟨x5, 12, none⟩ (.int .u64 B1.last.old)).setCell ⟨x5, 13, none⟩ (.int .u64 B1.last.new)).setCell ⟨x5, 14, none⟩ (.bool B1.last.done)) x5 #[.int .i64 c.th, .int .i64 c.sl, .int .i64 c.cp, .int .i64 c.he, .int .i64 c.ke, .int .i64 c.ev, .int .i64 c.la, .slice A1 B1.cells.length cap1, .int .i64 B1.count, .int .i64 B1.last.kind, .int .i64 B1.last.cell, .int .u64 B1.last.via, .int .u64 B1.last.old, .int .u64 B1.last.new, .bool B1.last.done] 50) := hid (blk_put15 E5.out (.int .i64 c.th) (.int .i64 c.sl) (.int .i64 c.cp) (.int .i64 c.he) (.int .i64 c.ke) (.int .i64 c.ev) (.int .i64 c.la) (.slice A1 B1.cells.length cap1) (.int .i64 B1.count) (.int .i64 B1.last.kind) (.int .i64 B1.last.cell) (.int .u64 B1.last.via) (.int .u64 B1.last.old) (.int .u64 B1.last.new) (.bool B1.last.done))
  have HC5 := hid (chg_put15 Wf x5 (.int .i64 c.th) (.int .i64 c.sl) (.int .i64 c.cp) (.int .i64 c.he) (.int .i64 c.ke) (.int .i64 c.ev) (.int .i64 c.la) (.slice A1 B1.cells.length cap1) (.int .i64 B1.count) (.int .i64 B1.last.kind) (.int .i64 B1.last.cell) (.int .u64 B1.last.via) (.int .u64 B1.last.old) (.int .u64 B1.last.new) (.bool B1.last.done))
  have F4 := hid (Blk.chg E4.out HC5.out (by have := XS.out; omega))
  have HC3 := hid (HC2.out.put HC5.out (by have := XS.out; omega) (by have := LL.out; omega) (by have := XS.out; omega) (by have := XS.out; omega))
  generalize (((((((((((((((Wf.setCell ⟨x5, 0, none⟩ (.int .i64 c.th)).setCell ⟨x5, 1, none⟩ (.int .i64 c.sl)).setCell ⟨x5, 2, none⟩ (.int .i64 c.cp)).setCell ⟨x5, 3, none⟩ (.int .i64 c.he)).setCell ⟨x5, 4, none⟩ (.int .i64 c.ke)).setCell ⟨x5, 5, none⟩ (.int .i64 c.ev)).setCell ⟨x5, 6, none⟩ (.int .i64 c.la)).setCell ⟨x5, 7, none⟩ (.slice A1 B1.cells.length cap1)).setCell ⟨x5, 8, none⟩ (.int .i64 B1.count)).setCell ⟨x5, 9, none⟩ (.int .i64 B1.last.kind)).setCell ⟨x5, 10, none⟩ (.int .i64 B1.last.cell)).setCell ⟨x5, 11, none⟩ (.int .u64 B1.last.via)).setCell ⟨x5, 12, none⟩ (.int .u64 B1.last.old)).setCell ⟨x5, 13, none⟩ (.int .u64 B1.last.new)).setCell ⟨x5, 14, none⟩ (.bool B1.last.done)) = Wg at *
  clear HC2 HC5 E4 E5
  refine ⟨HC3.out, ?_⟩
  refine ⟨by kernel_rfl, ?_⟩
  go_wp2_with fail
  refine bodyPost_ret (v := .tuple #[RHS.val ⟨h, 1, lv - 1, z, lv == 0⟩, mval c (.slice A1 B1.cells.length cap1) B1]) (res45 _ x4 x5 _ ⟨h, 1, lv - 1, z, lv == 0⟩ c (.slice A1 B1.cells.length cap1) B1 ⟨_, _, _, rfl⟩ rfl rfl F4.out F5.out) rfl ⟨(.slice A1 B1.cells.length cap1), rfl, ?_, ?_, HF.out⟩
  · exact HW1.out.keep HC3.out.chg (fun a n cc e _ hk => NX.out a n cc e _ hk.1 hk.2 rfl)
  · exact Gr.step GW1.out HC3.out.chg (fun k hk => hk.1)

set_option maxRecDepth 100000 in
set_option maxHeartbeats 2000000 in
theorem rstep_next_no (c : Cf) (s : Value) (B : Bk) (h nx lv z : Int) (dn : Bool) (w : World) (hv : Words w s B.cells) (hne : B.cells ≠ []) (hd : dn = false) (hn : nx = 1) (hl0 : 0 ≤ lv) (hl1 : lv ≤ 10) (B1 : Bk) (hu : U64 B1.last.old) (hm : hM B1.last.old = false) (hl : ∀ s w, Words w s B.cells → Calls Try.prog 68 #[mval c s B, .int .u64 h, .int .i64 (wrap64 (6 + lv))] w (MTold w c s B1 (.int .u64 B1.last.old))) :
    Calls Try.prog 45 #[.agg #[.int .u64 h, .int .i64 nx, .int .i64 lv, .int .u64 z, .bool dn], mval c s B] w (STold w c s ⟨h, 2, lv, B1.last.old, false⟩ B1) := by
  obtain ⟨A, cap, rfl⟩ := hv.slice
  have HV := hid hv
  have HN := hid hne
  clear hv hne
  have hld := hid (hl (.slice A B.cells.length cap))
  have hmk0 := rmarked_any B1.last.old hu
  rw [hm] at hmk0
  have HMK := hid hmk0
  clear hmk0 hm hu
  have HDN := hid (rdown_any h 1 lv z false hl0 hl1)
  clear hl hl0 hl1
  unfold mval at hld
  subst hd
  subst hn
  unfold mval
  go_enter Try.func45, Try.ntmps45
  go_wp2_with fail
  have G0 := hid (((((Gr.refl w).alloc (.cells #[.int .u64 h, .int .i64 1, .int .i64 lv, .int .u64 z, .bool false] 84)).alloc (.cells #[.int .i64 c.th, .int .i64 c.sl, .int .i64 c.cp, .int .i64 c.he, .int .i64 c.ke, .int .i64 c.ev, .int .i64 c.la, .slice A B.cells.length cap, .int .i64 B.count, .int .i64 B.last.kind, .int .i64 B.last.cell, .int .u64 B.last.via, .int .u64 B.last.old, .int .u64 B.last.new, .bool B.last.done] 50)).alloc (.cells #[.int .u64 0, .int .i64 0, .int .i64 0, .int .u64 0, .bool false] 84)).alloc (.cells #[.int .i64 0, .int .i64 0, .int .i64 0, .int .i64 0, .int .i64 0, .int .i64 0, .int .i64 0, .slice none 0 0, .int .i64 0, .int .i64 0, .int .i64 0, .int .u64 0, .int .u64 0, .int .u64 0, .bool false] 50))
  have A2 : Hid (Blk ((((w.alloc (.cells #[.int .u64 h, .int .i64 1, .int .i64 lv, .int .u64 z, .bool false] 84)).alloc (.cells #[.int .i64 c.th, .int .i64 c.sl, .int .i64 c.cp, .int .i64 c.he, .int .i64 c.ke, .int .i64 c.ev, .int .i64 c.la, .slice A B.cells.length cap, .int .i64 B.count, .int .i64 B.last.kind, .int .i64 B.last.cell, .int .u64 B.last.via, .int .u64 B.last.old, .int .u64 B.last.new, .bool B.last.done] 50)).alloc (.cells #[.int .u64 0, .int .i64 0, .int .i64 0, .int .u64 0, .bool false] 84)).alloc (.cells #[.int .i64 0, .int .i64 0, .int .i64 0, .int .i64 0, .int .i64 0, .int .i64 0, .int .i64 0, .slice none 0 0, .int .i64 0, .int .i64 0, .int .i64 0, .int .u64 0, .int .u64 0, .int .u64 0, .bool false] 50)) w.heap.size #[.int .u64 h, .int .i64 1, .int .i64 lv, .int .u64 z, .bool false] 84) := hid ((((Blk.new w #[.int .u64 h, .int .i64 1, .int .i64 lv, .int .u64 z, .bool false] 84).alloc _).alloc _).alloc _)
  have A3 : Hid (Blk ((((w.alloc (.cells #[.int .u64 h, .int .i64 1, .int .i64 lv, .int .u64 z, .bool false] 84)).alloc (.cells #[.int .i64 c.th, .int .i64 c.sl, .int .i64 c.cp, .int .i64 c.he, .int .i64 c.ke, .int .i64 c.ev, .int .i64 c.la, .slice A B.cells.length cap, .int .i64 B.count, .int .i64 B.last.kind, .int .i64 B.last.cell, .int .u64 B.last.via, .int .u64 B.last.old, .int .u64 B.last.new, .bool B.last.done] 50)).alloc (.cells #[.int .u64 0, .int .i64 0, .int .i64 0, .int .u64 0, .bool false] 84)).alloc (.cells #[.int .i64 0, .int .i64 0, .int .i64 0, .int .i64 0, .int .i64 0, .int .i64 0, .int .i64 0, .slice none 0 0, .int .i64 0, .int .i64 0, .int .i64 0, .int .u64 0, .int .u64 0, .int .u64 0, .bool false] 50)) (w.heap.size + 1) #[.int .i64 c.th, .int .i64 c.sl, .int .i64 c.cp, .int .i64 c.he, .int .i64 c.ke, .int .i64 c.ev, .int .i64 c.la, .slice A B.cells.length cap, .int .i64 B.count, .int .i64 B.last.kind, .int .i64 B.last.cell, .int .u64 B.last.via, .int .u64 B.last.old, .int .u64 B.last.new, .bool B.last.done] 50) := hid (((Blk.new' (by simp)).alloc _).alloc _)
  have A4 : Hid (Blk ((((w.alloc (.cells #[.int .u64 h, .int .i64 1, .int .i64 lv, .int .u64 z, .bool false] 84)).alloc (.cells #[.int .i64 c.th, .int .i64 c.sl, .int .i64 c.cp, .int .i64 c.he, .int .i64 c.ke, .int .i64 c.ev, .int .i64 c.la, .slice A B.cells.length cap, .int .i64 B.count, .int .i64 B.last.kind, .int .i64 B.last.cell, .int .u64 B.last.via, .int .u64 B.last.old, .int .u64 B.last.new, .bool B.last.done] 50)).alloc (.cells #[.int .u64 0, .int .i64 0, .int .i64 0, .int .u64 0, .bool false] 84)).alloc (.cells #[.int .i64 0, .int .i64 0, .int .i64 0, .int .i64 0, .int .i64 0, .int .i64 0, .int .i64 0, .slice none 0 0, .int .i64 0, .int .i64 0, .int .i64 0, .int .u64 0, .int .u64 0, .int .u64 0, .bool false] 50)) (w.heap.size + 1 + 1) #[.int .u64 0, .int .i64 0, .int .i64 0, .int .u64 0, .bool false] 84) := hid ((Blk.new' (by simp)).alloc _)
  have A5 : Hid (Blk ((((w.alloc (.cells #[.int .u64 h, .int .i64 1, .int .i64 lv, .int .u64 z, .bool false] 84)).alloc (.cells #[.int .i64 c.th, .int .i64 c.sl, .int .i64 c.cp, .int .i64 c.he, .int .i64 c.ke, .int .i64 c.ev, .int .i64 c.la, .slice A B.cells.length cap, .int .i64 B.count, .int .i64 B.last.kind, .int .i64 B.last.cell, .int .u64 B.last.via, .int .u64 B.last.old, .int .u64 B.last.new, .bool B.last.done] 50)).alloc (.cells #[.int .u64 0, .int .i64 0, .int .i64 0, .int .u64 0, .bool false] 84)).alloc (.cells #[.int .i64 0, .int .i64 0, .int .i64 0, .int .i64 0, .int .i64 0, .int .i64 0, .int .i64 0, .slice none 0 0, .int .i64 0, .int .i64 0, .int .i64 0, .int .u64 0, .int .u64 0, .int .u64 0, .bool false] 50)) (w.heap.size + 1 + 1 + 1) #[.int .i64 0, .int .i64 0, .int .i64 0, .int .i64 0, .int .i64 0, .int .i64 0, .int .i64 0, .slice none 0 0, .int .i64 0, .int .i64 0, .int .i64 0, .int .u64 0, .int .u64 0, .int .u64 0, .bool false] 50) := hid (Blk.new' (by simp))
  generalize ((((w.alloc (.cells #[.int .u64 h, .int .i64 1, .int .i64 lv, .int .u64 z, .bool false] 84)).alloc (.cells #[.int .i64 c.th, .int .i64 c.sl, .int .i64 c.cp, .int .i64 c.he, .int .i64 c.ke, .int .i64 c.ev, .int .i64 c.la, .slice A B.cells.length cap, .int .i64 B.count, .int .i64 B.last.kind, .int .i64 B.last.cell, .int .u64 B.last.via, .int .u64 B.last.old, .int .u64 B.last.new, .bool B.last.done] 50)).alloc (.cells #[.int .u64 0, .int .i64 0, .int .i64 0, .int .u64 0, .bool false] 84)).alloc (.cells #[.int .i64 0, .int .i64 0, .int .i64 0, .int .i64 0, .int .i64 0, .int .i64 0, .int .i64 0, .slice none 0 0, .int .i64 0, .int .i64 0, .int .i64 0, .int .u64 0, .int .u64 0, .int .u64 0, .bool false] 50)) = W0 at *
  have XS0 : w.heap.size + 1 + 1 + 1 < W0.heap.size := A5.out.lt
  generalize e3 : w.heap.size + 1 = x3 at *
  generalize e4 : x3 + 1 = x4 at *
  generalize e5 : x4 + 1 = x5 at *
  generalize e2 : w.heap.size = x2 at *
  have XS : Hid (x2 = w.heap.size ∧ x2 < x3 ∧ x3 < x4 ∧ x4 < x5 ∧ x5 < W0.heap.size) := hid ⟨e2.symm, by omega, by omega, by omega, XS0⟩
  clear XS0 e2 e3 e4 e5
  refine (hld.out _ (HV.out.gr G0.out)).mono ?_
  rintro e w1 ⟨s1, rfl, hw1, g1, hf1⟩
  obtain ⟨A1, cap1, rfl⟩ := hw1.slice
  have HW1 := hid hw1
  have GW1 := hid (Gr.trans G0.out g1)
  have NX := hid (Fresh.nx hf1 HV.out HN.out (Nat.le_refl _))
  have HF := hid (Fresh.mono hf1 G0.out.size)
  have B2 := hid (Blk.gr A2.out g1)
  have B3 := hid (Blk.gr A3.out g1)
  have B4 := hid (Blk.gr A4.out g1)
  have B5 := hid (Blk.gr A5.out g1)
  have sz := g1.size
  have l2 : x2 < w1.heap.size := by have := XS.out; omega
  have l3 : x3 < w1.heap.size := by have := XS.out; omega
  have l4 : x4 < w1.heap.size := by have := XS.out; omega
  have l5 : x5 < w1.heap.size := by have := XS.out; omega
  have LL : Hid (x2 < w1.heap.size ∧ x3 < w1.heap.size ∧ x4 < w1.heap.size ∧ x5 < w1.heap.size) := hid ⟨l2, l3, l4, l5⟩
  clear hw1 g1 hf1 sz
  unfold mval
  obtain ⟨p0, p1, p2, p3, p4⟩ := cells5 (B2.out)
  obtain ⟨m0, m1, m2, m3, m4, m5, m6, m7, m8, m9, m10, m11, m12, m13, m14⟩ := cells15 (B3.out)
  have pf := fun i => Blk.free B2.out i
  go_wp2_with fail
  clear p0 p1 p2 p3 p4 m0 m1 m2 m3 m4 m5 m6 m7 m8 m9 m10 m11 m12 m13 m14 pf l2 l3 l4 l5
  refine calls_gen (fun W => Cls w.heap.size W0.heap.size w1 x2 w1.heap.size #[.int .u64 h, .int .i64 1, .int .i64 lv, .int .u64 z, .bool false] #[.int .i64 c.th, .int .i64 c.sl, .int .i64 c.cp, .int .i64 c.he, .int .i64 c.ke, .int .i64 c.ev, .int .i64 c.la, .slice A1 B1.cells.length cap1, .int .i64 B1.count, .int .i64 B1.last.kind, .int .i64 B1.last.cell, .int .u64 B1.last.via, .int .u64 B1.last.old, .int .u64 B1.last.new, .bool B1.last.done] W ∧ Blk W x4 #[.int .u64 0, .int .i64 0, .int .i64 0, .int .u64 0, .bool false] 84 ∧ Blk W x5 #[.int .i64 0, .int .i64 0, .int .i64 0, .int .i64 0, .int .i64 0, .int .i64 0, .int .i64 0, .slice none 0 0, .int .i64 0, .int .i64 0, .int .i64 0, .int .u64 0, .int .u64 0, .int .u64 0, .bool false] 50) ⟨⟨Blk.alloc B2.out _, Blk.new' (by simp), Chg.alloc (Chg.refl _ _) _⟩, Blk.alloc B4.out _, Blk.alloc B5.out _⟩ ?_
  intro W HI0
  have HI1 := hid HI0
  clear HI0
  refine (HMK.out _).mono ?_
  rintro e W2 ⟨rfl, g2⟩
  have HI2 := hid (And.intro (HI1.out.1.gr g2) (And.intro (Blk.gr HI1.out.2.1 g2) (Blk.gr HI1.out.2.2 g2)))
  clear g2 HI1
  obtain ⟨p0, p1, p2, p3, p4⟩ := cells5 (HI2.out.1.x)
  have pl := HI2.out.1.x.lt
  have pf := fun i => Blk.free HI2.out.1.x i
  go_wp2_with fail
  clear p0 p1 p2 p3 p4 pl pf
  have hF : w.heap.size ≤ x2 ∧ x2 < W0.heap.size := by have := XS.out; omega
  refine wp_gen (fun W => Cls w.heap.size W0.heap.size w1 x2 w1.heap.size #[.int .u64 h, .int .i64 2, .int .i64 lv, .int .u64 B1.last.old, .bool false] #[.int .i64 c.th, .int .i64 c.sl, .int .i64 c.cp, .int .i64 c.he, .int .i64 c.ke, .int .i64 c.ev, .int .i64 c.la, .slice A1 B1.cells.length cap1, .int .i64 B1.count, .int .i64 B1.last.kind, .int .i64 B1.last.cell, .int .u64 B1.last.via, .int .u64 B1.last.old, .int .u64 B1.last.new, .bool B1.last.done] W ∧ Blk W x4 #[.int .u64 0, .int .i64 0, .int .i64 0, .int .u64 0, .bool false] 84 ∧ Blk W x5 #[.int .i64 0, .int .i64 0, .int .i64 0, .int .i64 0, .int .i64 0, .int .i64 0, .int .i64 0, .slice none 0 0, .int .i64 0, .int .i64 0, .int .i64 0, .int .u64 0, .int .u64 0, .int .u64 0, .bool false] 50) ⟨⟨Blk.of_eq (Blk.set (Blk.set HI2.out.1.x 3 _) 1 _) (by simp), (Blk.set_other (Blk.set_other HI2.out.1.m (by have := XS.out; have := LL.out; show w1.heap.size ≠ x2; omega) _) (by have := XS.out; have := LL.out; show w1.heap.size ≠ x2; omega) _), Chg.setCell (Chg.setCell HI2.out.1.chg (.inl hF) _) (.inl hF) _⟩, (Blk.set_other (Blk.set_other HI2.out.2.1 (by have := XS.out; have := LL.out; show x4 ≠ x2; omega) _) (by have := XS.out; have := LL.out; show x4 ≠ x2; omega) _), (Blk.set_other (Blk.set_other HI2.out.2.2 (by have := XS.out; have := LL.out; show x5 ≠ x2; omega) _) (by have := XS.out; have := LL.out; show x5 ≠ x2; omega) _)⟩ ?_
  intro W HI
  clear hF HI2
  have HC := hid HI.1.drew
  have D4 := hid HI.2.1.drew
  have D5 := hid HI.2.2.drew
  clear HI
  refine wp_region_anyC (n := 4) (Cls w.heap.size W0.heap.size w1 x2 w1.heap.size #[.int .u64 h, .int .i64 2, .int .i64 lv, .int .u64 B1.last.old, .bool false] #[.int .i64 c.th, .int .i64 c.sl, .int .i64 c.cp, .int .i64 c.he, .int .i64 c.ke, .int .i64 c.ev, .int .i64 c.la, .slice A1 B1.cells.length cap1, .int .i64 B1.count, .int .i64 B1.last.kind, .int .i64 B1.last.cell, .int .u64 B1.last.via, .int .u64 B1.last.old, .int .u64 B1.last.new, .bool B1.last.done]) (by kernel_rfl) rfl ?_
  generalize World.drew _ = Wd at *
  refine anyC_quiet (a1 := ?a6) (by kernel_rfl) 2 [0, 1] _ _ _ (by kernel_rfl) (by kernel_rfl) HC.out ?_ ?_
  rotate_left
  · intro w' g'
    have hne : Nonempty (St (· = w')) := ⟨⟨w', rfl⟩⟩
    have X3 := g'.x
    obtain ⟨u0, u1, u2, u3, u4⟩ := st5 (X3)
    clear X3
    have X3 := g'.m
    obtain ⟨y0, y1, y2, y3, y4, y5, y6, y7, y8, y9, y10, y11, y12, y13, y14⟩ := st15 (X3)
    clear X3
    clear g'
    conv => arg 5; simp only [picked, List.filterMap_cons, List.filterMap_nil, List.getElem?_toArray, List.getElem?_cons_zero, List.getElem?_cons_succ]
    show wpQuiet _ _ _ _ [_, _] _
    repeat (go_big_quiet_step (fail))
    refine wpQuiet_nil ?_
    rfl
  obtain ⟨q0, q1, q2, q3, q4⟩ := cells5 (D4.out)
  have ql := D4.out.lt
  have qf := fun i => Blk.free D4.out i
  refine anyC_alone 2 HC.out (by kernel_rfl) (by kernel_rfl) ?_
  conv => arg 4; simp only [picked, List.filterMap_cons, List.filterMap_nil, List.getElem?_toArray, List.getElem?_cons_zero, List.getElem?_cons_succ]
  show wpList _ _ _ [_] _ _
  go_wp2_with fail
  clear q0 q1 q2 q3 q4 ql qf
  have E4 : Hid (Blk (((((Wd.setCell ⟨x4, 0, none⟩ (.int .u64 h)).setCell ⟨x4, 1, none⟩ (.int .i64 2)).setCell ⟨x4, 2, none⟩ (.int .i64 lv)).setCell ⟨x4, 3, none⟩ (.int .u64 B1.last.old)).setCell ⟨x4, 4, none⟩ (.bool false)) x4 #[.int .u64 h, .int .i64 2, .int .i64 lv, .int .u64 B1.last.old, .bool false] 84) := hid (blk_put5 D4.out (.int .u64 h) (.int .i64 2) (.int .i64 lv) (.int .u64 B1.last.old) (.bool false))
  have HC4 := hid (chg_put5 Wd x4 (.int .u64 h) (.int .i64 2) (.int .i64 lv) (.int .u64 B1.last.old) (.bool false))
  have E5 := hid (Blk.chg D5.out HC4.out (by have := XS.out; omega))
  have HC2 := hid (HC.out.put HC4.out (by have := XS.out; omega) (by have := LL.out; omega) (by have := XS.out; omega) (by have := XS.out; omega))
  generalize (((((Wd.setCell ⟨x4, 0, none⟩ (.int .u64 h)).setCell ⟨x4, 1, none⟩ (.int .i64 2)).setCell ⟨x4, 2, none⟩ (.int .i64 lv)).setCell ⟨x4, 3, none⟩ (.int .u64 B1.last.old)).setCell ⟨x4, 4, none⟩ (.bool false)) = Wf at *
  clear HC HC4 D4 D5
  refine ⟨HC2.out, ?_⟩
  obtain ⟨q0, q1, q2, q3, q4, q5, q6, q7, q8, q9, q10, q11, q12, q13, q14⟩ := cells15 (E5.out)
  have ql := E5.out.lt
  have qf := fun i => Blk.free E5.out i
  refine anyC_alone 3 HC2.out (by kernel_rfl) (by kernel_rfl) ?_
  conv => arg 4; simp only [picked, List.filterMap_cons, List.filterMap_nil, List.getElem?_toArray, List.getElem?_cons_zero, List.getElem?_cons_succ]
  show wpList _ _ _ [_] _ _
  go_wp2_with fail
  clear q0 q1 q2 q3 q4 q5 q6 q7 q8 q9 q10 q11 q12 q13 q14 ql qf
  have F5 : Hid (Blk (((((((((((((((Wf.setCell ⟨x5, 0, none⟩ (.int .i64 c.th)).setCell ⟨x5, 1, none⟩ (.int .i64 c.sl)).setCell ⟨x5, 2, none⟩ (.int .i64 c.cp)).setCell ⟨x5, 3, none⟩ (.int .i64 c.he)).setCell ⟨x5, 4, none⟩ (.int .i64 c.ke)).setCell ⟨x5, 5, none⟩ (.int .i64 c.ev)).setCell ⟨x5, 6, none⟩ (.int .i64 c.la)).setCell ⟨x5, 7, none⟩ (.slice A1 B1.cells.length cap1)).setCell ⟨x5, 8, none⟩ (.int .i64 B1.count)).setCell ⟨x5, 9, none⟩ (.int .i64 B1.last.kind)).setCell ⟨x5, 10, none⟩ (.int .i64 B1.last.cell)).setCell ⟨x5, 11, none⟩ (.int .u64 B1.last.via)).setCell ⟨x5, 12, none⟩ (.int .u64 B1.last.old)).setCell ⟨x5, 13, none⟩ (.int .u64 B1.last.new)).setCell ⟨x5, 14, none⟩ (.bool B1.last.done)) x5 #[.int .i64 c.th, .int .i64 c.sl, .int .i64 c.cp, .int .i64 c.he, .int .i64 c.ke, .int .i64 c.ev, .int .i64 c.la, .slice A1 B1.cells.length cap1, .int .i64 B1.count, .int .i64 B1.last.kind, .int .i64 B1.last.cell, .int .u64 B1.last.via, .int .u64 B1.last.old, .int .u64 B1.last.new, .bool B1.last.done] 50) := hid (blk_put15 E5.out (.int .i64 c.th) (.int .i64 c.sl) (.int .i64 c.cp) (.int .i64 c.he) (.int .i64 c.ke) (.int .i64 c.ev) (.int .i64 c.la) (.slice A1 B1.cells.length cap1) (.int .i64 B1.count) (.int .i64 B1.last.kind) (.int .i64 B1.last.cell) (.int .u64 B1.last.via) (.int .u64 B1.last.old) (.int .u64 B1.last.new) (.bool B1.last.done))
  have HC5 := hid (chg_put15 Wf x5 (.int .i64 c.th) (.int .i64 c.sl) (.int .i64 c.cp) (.int .i64 c.he) (.int .i64 c.ke) (.int .i64 c.ev) (.int .i64 c.la) (.slice A1 B1.cells.length cap1) (.int .i64 B1.count) (.int .i64 B1.last.kind) (.int .i64 B1.last.cell) (.int .u64 B1.last.via) (.int .u64 B1.last.old) (.int .u64 B1.last.new) (.bool B1.last.done))
  have F4 := hid (Blk.chg E4.out HC5.out (by have := XS.out; omega))
  have HC3 := hid (HC2.out.put HC5.out (by have := XS.out; omega) (by have := LL.out; omega) (by have := XS.out; omega) (by have := XS.out; omega))
  generalize (((((((((((((((Wf.setCell ⟨x5, 0, none⟩ (.int .i64 c.th)).setCell ⟨x5, 1, none⟩ (.int .i64 c.sl)).setCell ⟨x5, 2, none⟩ (.int .i64 c.cp)).setCell ⟨x5, 3, none⟩ (.int .i64 c.he)).setCell ⟨x5, 4, none⟩ (.int .i64 c.ke)).setCell ⟨x5, 5, none⟩ (.int .i64 c.ev)).setCell ⟨x5, 6, none⟩ (.int .i64 c.la)).setCell ⟨x5, 7, none⟩ (.slice A1 B1.cells.length cap1)).setCell ⟨x5, 8, none⟩ (.int .i64 B1.count)).setCell ⟨x5, 9, none⟩ (.int .i64 B1.last.kind)).setCell ⟨x5, 10, none⟩ (.int .i64 B1.last.cell)).setCell ⟨x5, 11, none⟩ (.int .u64 B1.last.via)).setCell ⟨x5, 12, none⟩ (.int .u64 B1.last.old)).setCell ⟨x5, 13, none⟩ (.int .u64 B1.last.new)).setCell ⟨x5, 14, none⟩ (.bool B1.last.done)) = Wg at *
  clear HC2 HC5 E4 E5
  refine ⟨HC3.out, ?_⟩
  refine ⟨by kernel_rfl, ?_⟩
  go_wp2_with fail
  refine bodyPost_ret (v := .tuple #[RHS.val ⟨h, 2, lv, B1.last.old, false⟩, mval c (.slice A1 B1.cells.length cap1) B1]) (res45 _ x4 x5 _ ⟨h, 2, lv, B1.last.old, false⟩ c (.slice A1 B1.cells.length cap1) B1 ⟨_, _, _, rfl⟩ rfl rfl F4.out F5.out) rfl ⟨(.slice A1 B1.cells.length cap1), rfl, ?_, ?_, HF.out⟩
  · exact HW1.out.keep HC3.out.chg (fun a n cc e _ hk => NX.out a n cc e _ hk.1 hk.2 rfl)
  · exact Gr.step GW1.out HC3.out.chg (fun k hk => hk.1)

end Go.Proofs.YthbkncklliiooaaH
