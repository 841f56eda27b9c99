/-
  The walks of package help.
-/
import Derived.Test.YthbkncklliiooaaHm
import Derived.Laws.EntriesVeiled
namespace Go.Proofs.YthbkncklliiooaaH
set_option linter.unusedVariables false
set_option linter.unusedSimpArgs false
open Go.RowKit

/-- Where a help is. -/
inductive Wh where
  | done | tall | next | mark
deriving DecidableEq

def Wh.val : Wh → Value
  | .done => .nilFunc
  | .tall => .func (Fn.func 56) #[] #[]
  | .next => .func (Fn.func 77) #[] #[]
  | .mark => .func (Fn.func 91) #[] #[]

/-- A help. -/
structure HS where
  st : Wh
  h : Int
  s : Int
  lv : Int

def helpRow (H : HS) : Array Value := #[H.st.val, .int .u64 H.h, .int .u64 H.s, .int .i64 H.lv]
def IsHelp (w : World) (a : Nat) (H : HS) : Prop := Blk w a (helpRow H) 98

theorem IsHelp.c {w : World} {a : Nat} {H : HS} (h : IsHelp w a H) : w.cell? ⟨a, 0, none⟩ = some H.st.val ∧ w.cell? ⟨a, 1, none⟩ = some (.int .u64 H.h) ∧ w.cell? ⟨a, 2, none⟩ = some (.int .u64 H.s) ∧ w.cell? ⟨a, 3, none⟩ = some (.int .i64 H.lv) :=
  ⟨Blk.cell h rfl, Blk.cell h rfl, Blk.cell h rfl, Blk.cell h rfl⟩

theorem Chg.set1 {k : Nat} {a b : World} (h : Chg (· = k) a b) (o : Nat) (u : Value) : Chg (· = k) a (b.setCell ⟨k, o, none⟩ u) := Chg.setCell (p := ⟨k, o, none⟩) h (.inl rfl) u

theorem eql_nil (w : World) : (binOp .eql 96 .nilFunc .nilFunc).run Try.prog w = .ok (.bool true) w := by kernel_rfl
theorem eql_fun (n : Nat) (w : World) : (binOp .eql 96 (.func (Fn.func n) #[] #[]) .nilFunc).run Try.prog w = .ok (.bool false) w := by kernel_rfl
theorem neq_nil (w : World) : (binOp .neq 96 .nilFunc .nilFunc).run Try.prog w = .ok (.bool false) w := by kernel_rfl
theorem neq_fun (n : Nat) (w : World) : (binOp .neq 96 (.func (Fn.func n) #[] #[]) .nilFunc).run Try.prog w = .ok (.bool true) w := by kernel_rfl

def HS.new (h : Int) : HS := ⟨.tall, h, 0, 0⟩
def HS.down (H : HS) : HS := ⟨if H.lv - 1 < 0 then .done else .next, H.h, H.s, H.lv - 1⟩

set_option maxRecDepth 100000 in
set_option maxHeartbeats 1000000 in
theorem hnew_any (h : Int) (w : World) : Calls Try.prog 28 #[.int .u64 h] w fun e w' => e = .returned (.pointer (some ⟨w.heap.size, 0, none⟩)) ∧ w' = w.alloc (.cells (helpRow (HS.new h)) 98) := by
  go_enter Try.func28, Try.ntmps28
  go_wp2
  go_ret
  exact ⟨rfl, rfl⟩

set_option maxRecDepth 100000 in
set_option maxHeartbeats 1000000 in
theorem hdone_yes (a : Nat) (H : HS) (w : World) (hH : IsHelp w a H) (hd : H.st = .done) : Calls Try.prog 35 #[.pointer (some ⟨a, 0, none⟩)] w fun e w' => e = .returned (.bool true) ∧ w = w' := by
  obtain ⟨c0, c1, c2, c3⟩ := hH.c
  have hlt := Blk.lt hH
  rw [hd] at c0
  unfold Wh.val at c0
  clear hH hd
  have he1 := eql_nil
  have he2 := eql_fun
  go_enter Try.func35, Try.ntmps35
  go_wp2
  go_ret
  exact ⟨rfl, rfl⟩

set_option maxRecDepth 100000 in
set_option maxHeartbeats 1000000 in
theorem hdone_no (a : Nat) (H : HS) (w : World) (hH : IsHelp w a H) (hd : H.st ≠ .done) : Calls Try.prog 35 #[.pointer (some ⟨a, 0, none⟩)] w fun e w' => e = .returned (.bool false) ∧ w = w' := by
  obtain ⟨c0, c1, c2, c3⟩ := hH.c
  have hlt := Blk.lt hH
  obtain ⟨st, h, s, lv⟩ := H
  simp only at c0 c1 c2 c3 hd
  clear hH
  cases st
  · exact absurd rfl hd
  all_goals
    unfold Wh.val at c0
    simp only at c0
    have he1 := eql_nil
    have he2 := eql_fun
    go_enter Try.func35, Try.ntmps35
    go_wp2
    go_ret
    exact ⟨rfl, rfl⟩

theorem down_row (H : HS) : helpRow H.down = (((helpRow H).setIfInBounds 3 (.int .i64 (H.lv - 1))).setIfInBounds 0 (.func (Fn.func 77) #[] #[])).setIfInBounds 0 (H.down.st.val) := by
  simp [helpRow, HS.down]

set_option maxRecDepth 100000 in
set_option maxHeartbeats 1000000 in
theorem hdown_any (a : Nat) (H : HS) (w : World) (hH : IsHelp w a H) (hl0 : 0 ≤ H.lv) (hl1 : H.lv ≤ 10) :
    Calls Try.prog 90 #[.pointer (some ⟨a, 0, none⟩)] w fun e w' => e = .returned (.tuple #[]) ∧ IsHelp w' a H.down ∧ Chg (· = a) w w' := by
  obtain ⟨c0, c1, c2, c3⟩ := hH.c
  have hlt := Blk.lt hH
  have hf := fun i => Blk.free hH i
  have HH := hid hH
  clear hH
  by_cases hd : H.lv - 1 < 0
  · have e : H.down.st = .done := if_pos hd
    have hr := down_row H
    rw [e] at hr
    have HR := hid hr
    clear hr e
    go_enter Try.func90, Try.ntmps90
    go_wp2
    go_end0
    refine ⟨rfl, ?_, ?_⟩
    · unfold IsHelp
      rw [HR.out]
      exact Blk.set (Blk.set (Blk.set HH.out 3 _) 0 _) 0 _
    · iterate 3 refine Chg.set1 ?_ _ _
      exact Chg.refl _ _
  · have e : H.down.st = .next := if_neg hd
    have hr := down_row H
    rw [e] at hr
    have HR := hid hr
    clear hr e
    go_enter Try.func90, Try.ntmps90
    go_wp2
    go_end0
    refine ⟨rfl, ?_, ?_⟩
    · unfold IsHelp
      rw [HR.out]
      have X := Blk.set (Blk.set HH.out 3 (.int .i64 (H.lv - 1))) 0 (.func (Fn.func 77) #[] #[])
      have ee : ((((helpRow H).setIfInBounds 3 (.int .i64 (H.lv - 1))).setIfInBounds 0 (.func (Fn.func 77) #[] #[])).setIfInBounds 0 (Wh.next.val)) = ((helpRow H).setIfInBounds 3 (.int .i64 (H.lv - 1))).setIfInBounds 0 (.func (Fn.func 77) #[] #[]) := by simp [Wh.val]
      rw [ee]
      exact X
    · iterate 2 refine Chg.set1 ?_ _ _
      exact Chg.refl _ _

/-- The level that a help begins with, of what its node's field has. -/
def topLv (c : Cf) (n : Int) : Int := min (max n 1) c.he - 1

/-- A step, and the words behind it. -/
def HS.step (c : Cf) (H : HS) (B : Bk) : HS × Bk :=
  match H.st with
  | .done => (H, B)
  | .tall => (⟨.next, H.h, H.s, topLv c (B.load (c.cel (hI H.h) 4) (hPl H.h)).last.old⟩, B.load (c.cel (hI H.h) 4) (hPl H.h))
  | .next =>
    let B' := B.load (c.cel (hI H.h) (6 + H.lv)) (hPl H.h)
    (if hM B'.last.old = true then HS.down ⟨.next, H.h, B'.last.old, H.lv⟩ else ⟨.mark, H.h, B'.last.old, H.lv⟩, B')
  | .mark =>
    let B' := B.swap (c.cel (hI H.h) (6 + H.lv)) (hPl H.h) H.s (hMk H.s)
    (if B'.last.done = true then HS.down H else ⟨.next, H.h, H.s, H.lv⟩, B')

/-- All numbers are words. -/
def Bk.Wd (B : Bk) : Prop := ∀ x ∈ B.cells, U64 x
/-- A help that may be. -/
structure HS.Fit (H : HS) : Prop where
  h : U64 H.h
  s : U64 H.s
  lo : H.st = .next ∨ H.st = .mark → 0 ≤ H.lv
  hi : H.lv ≤ 10

theorem Bk.get_u64 {B : Bk} (h : B.Wd) (i : Int) : U64 (B.get i) := by
  unfold Bk.get
  rw [List.getD_eq_getElem?_getD]
  cases hk : B.cells[i.toNat]? with
  | none => exact ⟨by simp, by simp⟩
  | some x => exact h x (List.mem_of_getElem? hk)

theorem load_old_u64 {B : Bk} (h : B.Wd) (x y : Int) : U64 (B.load x y).last.old := by
  unfold Bk.load
  by_cases k : B.has x = true
  · rw [if_pos k]; exact Bk.get_u64 h x
  · rw [if_neg k]
    show U64 0
    exact ⟨by omega, by omega⟩

theorem tall_blk {w : World} {a : Nat} {H : HS} {c : Cf} {n x : Int} (e : x = topLv c n) (h : IsHelp w a H) :
    IsHelp ((w.setCell ⟨a, 3, none⟩ (.int .i64 x)).setCell ⟨a, 0, none⟩ (.func (Fn.func 77) #[] #[])) a ⟨.next, H.h, H.s, topLv c n⟩ := by
  subst e
  have X := Blk.set (Blk.set h 3 (.int .i64 (topLv c n))) 0 (.func (Fn.func 77) #[] #[])
  unfold IsHelp
  have ee : helpRow ⟨.next, H.h, H.s, topLv c n⟩ = ((helpRow H).setIfInBounds 3 (.int .i64 (topLv c n))).setIfInBounds 0 (.func (Fn.func 77) #[] #[]) := by simp [helpRow, Wh.val]
  rw [ee]
  exact X

theorem field23_3 (a b d e f g h : Int) (w : World) : (Instr.field 23 (.agg #[.int .i64 a, .int .i64 b, .int .i64 d, .int .i64 e, .int .i64 f, .int .i64 g, .int .i64 h]) 3).run Try.prog w = .ok (.int .i64 e) w := by kernel_rfl

def Tri (a p q : Nat) (k : Nat) : Prop := k = a ∨ k = p ∨ k = q

set_option maxRecDepth 100000 in
set_option maxHeartbeats 4000000 in
theorem htall_any (a m p q : Nat) (c : Cf) (hc : c.Ok) (H : HS) (B : Bk) (w : World) (hH : IsHelp w a H) (hm : IsMem w m p q c B) (h1 : a ≠ m) (h2 : a ≠ p) (h3 : a ≠ q) (hF : H.Fit) (hst : H.st = .tall) (hB : B.Wd) :
    Calls Try.prog 56 #[.pointer (some ⟨a, 0, none⟩), .pointer (some ⟨m, 0, none⟩)] w fun e w' => e = .returned (.tuple #[]) ∧ IsHelp w' a (H.step c B).1 ∧ IsMem w' m p q c (H.step c B).2 ∧ Chg (Tri a p q) w w' := by
  have hu := load_old_u64 hB (c.cel (hI H.h) 4) (hPl H.h)
  have hl := mload_any m p q c B H.h 4 hF.h w hm
  have he1 : 1 ≤ c.he := hc.2.2.2.2.2.2.1
  have he2 : c.he ≤ 6 := hc.2.2.2.2.2.2.2.1
  have es : H.step c B = (⟨.next, H.h, H.s, topLv c (B.load (c.cel (hI H.h) 4) (hPl H.h)).last.old⟩, B.load (c.cel (hI H.h) 4) (hPl H.h)) := by simp only [HS.step, hst]
  rw [es]
  clear es
  obtain ⟨c0, c1, c2, c3⟩ := hH.c
  have hlt := Blk.lt hH
  generalize hBl : B.load (c.cel (hI H.h) 4) (hPl H.h) = B' at *
  generalize hn : B'.last.old = n at *
  obtain ⟨hu0, hu1⟩ := hu
  have hcf := config_any c
  unfold Cf.val at hcf
  have HC := hid hcf
  have hfld := field23_3
  clear hcf
  have HL := hid hl
  have HH := hid hH
  have HM := hid hm
  have HB := hid hBl
  have HN := hid hn
  clear hl hH hm hBl hn hF hst hB hc
  go_enter Try.func56, Try.ntmps56
  go_wp2_with fail
  refine HL.out.mono ?_
  rintro e w1 ⟨rfl, hb, g1⟩
  have hno : ¬ Two p q m := fun k => k.elim HM.out.nmp HM.out.nmq
  have hna : ¬ Two p q a := fun k => k.elim h2 h3
  have X := HM.out.mem.chg g1 hno
  have Y := Blk.chg HH.out g1 hna
  obtain ⟨⟨z0, z1, z2, z3, z4, z5, z6⟩, z7⟩ := memRow_c X
  obtain ⟨y0, y1, y2, y3⟩ := IsHelp.c Y
  have hlm := X.lt
  have hla := Blk.lt Y
  have hfa := fun i => Blk.free Y i
  have AX := hid X
  have AY := hid Y
  have AG := hid g1
  have AB := hid hb
  clear X Y c0 c1 c2 c3 g1 hb hno hna
  go_wp2_with fail
  all_goals
    refine (HC.out _).mono ?_
    rintro e w2 ⟨rfl, g2⟩
    have Z := Blk.gr AY.out g2
    obtain ⟨y0, y1, y2, y3⟩ := IsHelp.c Z
    have hla := Blk.lt Z
    have hfa := fun i => Blk.free Z i
    have AZ := hid Z
    have AG2 := hid g2
    clear Z g2
    go_wp2_with fail
    all_goals
      go_end0
      refine ⟨rfl, tall_blk (by unfold topLv; omega) AZ.out, ?_, ?_⟩
      · refine IsMem.chg (F := (· = a)) ?_ (Chg.set1 (Chg.set1 (Chg.refl _ _) _ _) _ _) (by simpa using Ne.symm h1) (by simpa using Ne.symm h2) (by simpa using Ne.symm h3)
        exact (⟨AX.out, AB.out, HM.out.nmp, HM.out.nmq⟩ : IsMem w1 m p q c B').gr AG2.out
      · refine Chg.trans (Chg.mono AG.out fun k hk => .inr hk) (Chg.trans AG2.out.chg ?_)
        exact Chg.mono (Chg.set1 (Chg.set1 (Chg.refl (· = a) w2) _ _) _ _) fun k hk => .inl hk


theorem s_blk {w : World} {a : Nat} {H : HS} {x : Int} (h : IsHelp w a H) : IsHelp (w.setCell ⟨a, 2, none⟩ (.int .u64 x)) a ⟨H.st, H.h, x, H.lv⟩ := by
  have X := Blk.set h 2 (.int .u64 x)
  unfold IsHelp
  have ee : helpRow ⟨H.st, H.h, x, H.lv⟩ = ((helpRow H).setIfInBounds 2 (.int .u64 x)) := by simp [helpRow]
  rw [ee]
  exact X
theorem st_blk {w : World} {a : Nat} {H : HS} (st : Wh) (h : IsHelp w a H) : IsHelp (w.setCell ⟨a, 0, none⟩ st.val) a ⟨st, H.h, H.s, H.lv⟩ := by
  have X := Blk.set h 0 st.val
  unfold IsHelp
  have ee : helpRow ⟨st, H.h, H.s, H.lv⟩ = ((helpRow H).setIfInBounds 0 st.val) := by simp [helpRow]
  rw [ee]
  exact X

/-- Worlds in which a help's node and level are these. -/
structure Same2 (w : World) (a p q : Nat) (h lv : Int) (w' : World) : Prop where
  h : w'.cell? ⟨a, 1, none⟩ = some (.int .u64 h)
  lv : w'.cell? ⟨a, 3, none⟩ = some (.int .i64 lv)
  chg : Chg (Tri a p q) w w'

set_option maxRecDepth 100000 in
set_option maxHeartbeats 4000000 in
theorem hnext_any (a m p q : Nat) (c : Cf) (hc : c.Ok) (H : HS) (B : Bk) (w : World) (hH : IsHelp w a H) (hm : IsMem w m p q c B) (h1 : a ≠ m) (h2 : a ≠ p) (h3 : a ≠ q) (hF : H.Fit) (hst : H.st = .next) (hB : B.Wd) :
    Calls Try.prog 77 #[.pointer (some ⟨a, 0, none⟩), .pointer (some ⟨m, 0, none⟩)] w fun e w' => e = .returned (.tuple #[]) ∧ IsHelp w' a (H.step c B).1 ∧ IsMem w' m p q c (H.step c B).2 ∧ Chg (Tri a p q) w w' := by
  have hu := load_old_u64 hB (c.cel (hI H.h) (6 + H.lv)) (hPl H.h)
  have hl := mload_any m p q c B H.h (6 + H.lv) hF.h w.drew (hm.gr (Gr.refl w).drew)
  have hl0 : 0 ≤ H.lv := hF.lo (.inl hst)
  have hl1 : H.lv ≤ 10 := hF.hi
  have es : H.step c B = (if hM (B.load (c.cel (hI H.h) (6 + H.lv)) (hPl H.h)).last.old = true then HS.down ⟨.next, H.h, (B.load (c.cel (hI H.h) (6 + H.lv)) (hPl H.h)).last.old, H.lv⟩ else ⟨.mark, H.h, (B.load (c.cel (hI H.h) (6 + H.lv)) (hPl H.h)).last.old, H.lv⟩, B.load (c.cel (hI H.h) (6 + H.lv)) (hPl H.h)) := by simp only [HS.step, hst]
  rw [es]
  clear es
  obtain ⟨st, h, s0, lv⟩ := H
  simp only at *
  subst hst
  obtain ⟨c0, c1, c2, c3⟩ := hH.c
  simp only at c0 c1 c2 c3
  have hlt := Blk.lt hH
  generalize hBl : B.load (c.cel (hI h) (6 + lv)) (hPl h) = B' at *
  generalize hn : B'.last.old = n at *
  have hmk := marked_any n hu
  have HL := hid hl
  have HH := hid hH
  have HM := hid hm
  have HMK := hid hmk
  have C1 := hid c1
  have C3 := hid c3
  clear hl hH hm hBl hn hF hB hc hmk hu c0 c1 c2 c3
  go_enter Try.func77, Try.ntmps77
  go_wp2_with fail
  refine wp_region_anyC (n := 15) (Same2 w a p q h lv) (by kernel_rfl) rfl ?_
  refine anyC_quiet (a1 := ?a1) (by kernel_rfl) 4 [0, 1, 2, 3, 4, 5, 6, 7, 8, 9, 10] _ _ _ (by kernel_rfl) (by kernel_rfl) ⟨C1.out, C3.out, (Chg.refl _ w).drew⟩ ?_ ?_
  rotate_left
  · intro w' g'
    have hne : Nonempty (St (· = w')) := ⟨⟨w', rfl⟩⟩
    have x1 : ∀ s : St (· = w'), s.val.cell? ⟨a, 1, none⟩ = some (.int .u64 h) := fun s => by rw [s.ok]; exact g'.h
    have x3 : ∀ s : St (· = w'), s.val.cell? ⟨a, 3, none⟩ = some (.int .i64 lv) := fun s => by rw [s.ok]; exact g'.lv
    clear g'
    conv => arg 5; simp only [picked, List.filterMap_cons, List.filterMap_nil, List.getElem?_toArray, List.getElem?_cons_zero, List.getElem?_cons_succ]
    show wpQuiet _ _ _ _ [_, _, _, _, _, _, _, _, _, _, _] _
    repeat (go_big_quiet_step (fail))
    refine wpQuiet_nil ?_
    rfl
  refine anyC_alone 11 ⟨C1.out, C3.out, (Chg.refl _ w).drew⟩ (by kernel_rfl) (by kernel_rfl) ?_
  conv => arg 4; simp only [picked, List.filterMap_cons, List.filterMap_nil, List.getElem?_toArray, List.getElem?_cons_zero, List.getElem?_cons_succ]
  show wpList _ _ _ [_] _ _
  go_wp2_with fail
  refine HL.out.mono ?_
  rintro e w1 ⟨rfl, hb, g1⟩
  have hno : ¬ Two p q m := fun k => k.elim HM.out.nmp HM.out.nmq
  have hna : ¬ Two p q a := fun k => k.elim h2 h3
  have X := (Blk.drew HM.out.mem).chg g1 hno
  have Y := Blk.chg (Blk.drew HH.out) g1 hna
  have D0 := (IsHelp.c Y)
  have D1 := hid (⟨D0.2.1, D0.2.2.2, Chg.trans (Chg.refl _ w).drew (Chg.mono g1 fun k hk => .inr hk)⟩ : Same2 w a p q h lv w1)
  have D2 := hid D0.2.2.1
  have hla := Blk.lt Y
  have hfa := fun i => Blk.free Y i
  have AX := hid X
  have AY := hid Y
  have AB := hid hb
  clear X Y hb hno hna g1 D0
  go_wp2_with fail
  refine ⟨D1.out, ?_⟩
  refine anyC_alone 12 D1.out (by kernel_rfl) (by kernel_rfl) ?_
  conv => arg 4; simp only [picked, List.filterMap_cons, List.filterMap_nil, List.getElem?_toArray, List.getElem?_cons_zero, List.getElem?_cons_succ]
  show wpList _ _ _ [_] _ _
  go_wp2_with fail
  refine ⟨D1.out, ?_⟩
  refine anyC_alone 13 D1.out (by kernel_rfl) (by kernel_rfl) ?_
  conv => arg 4; simp only [picked, List.filterMap_cons, List.filterMap_nil, List.getElem?_toArray, List.getElem?_cons_zero, List.getElem?_cons_succ]
  show wpList _ _ _ [_] _ _
  go_wp2_with fail
  refine ⟨D1.out, ?_⟩
  refine anyC_alone 14 D1.out (by kernel_rfl) (by kernel_rfl) ?_
  conv => arg 4; simp only [picked, List.filterMap_cons, List.filterMap_nil, List.getElem?_toArray, List.getElem?_cons_zero, List.getElem?_cons_succ]
  show wpList _ _ _ [_] _ _
  have y2 := D2.out
  go_wp2_with fail
  have AS := hid (s_blk (x := n) AY.out)
  have AM := hid (IsMem.chg (F := (· = a)) (⟨AX.out, AB.out, HM.out.nmp, HM.out.nmq⟩ : IsMem w1 m p q c B') (Chg.set1 (Chg.refl (· = a) w1) 2 (.int .u64 n)) (by simpa using Ne.symm h1) (by simpa using Ne.symm h2) (by simpa using Ne.symm h3))
  have AC := hid (Chg.trans D1.out.chg (Chg.mono (Chg.set1 (Chg.refl (· = a) w1) 2 (.int .u64 n)) fun k hk => .inl hk) : Chg (Tri a p q) w (w1.setCell ⟨a, 2, none⟩ (.int .u64 n)))
  clear y2 hla hfa
  generalize (w1.setCell ⟨a, 2, none⟩ (.int .u64 n)) = w2 at *
  have D3 := IsHelp.c AS.out
  simp only at D3
  refine ⟨⟨D3.2.1, D3.2.2.2, AC.out⟩, by kernel_rfl, ?_⟩
  obtain ⟨y0, y1, y2, y3⟩ := D3
  have hla := Blk.lt AS.out
  have hfa := fun i => Blk.free AS.out i
  go_wp2_with fail
  refine (HMK.out _).mono ?_
  rintro e w3 ⟨rfl, rfl⟩
  by_cases hmn : hM n = true
  · go_wp2_with fail
    refine (hdown_any a ⟨.next, h, n, lv⟩ w2 AS.out hl0 hl1).mono ?_
    rintro e w4 ⟨rfl, hh4, g4⟩
    go_wp2_with fail
    first | go_end0 | refine bodyPost_ret (results_none rfl _ _ _) rfl ?_
    exact ⟨rfl, by first | exact hh4 | (rw [if_pos hmn]; exact hh4), AM.out.chg g4 (by simpa using Ne.symm h1) (by simpa using Ne.symm h2) (by simpa using Ne.symm h3), Chg.trans AC.out (Chg.mono g4 fun k hk => .inl hk)⟩
  · have hmf : hM n = false := by simpa using hmn
    go_wp2_with fail
    go_end0
    exact ⟨rfl, by first | exact st_blk .mark AS.out | (rw [if_neg hmn]; exact st_blk .mark AS.out), AM.out.chg (Chg.set1 (Chg.refl (· = a) w2) 0 _) (by simpa using Ne.symm h1) (by simpa using Ne.symm h2) (by simpa using Ne.symm h3), Chg.trans AC.out (Chg.mono (Chg.set1 (Chg.refl (· = a) w2) 0 _) fun k hk => .inl hk)⟩

set_option maxRecDepth 100000 in
set_option maxHeartbeats 4000000 in
theorem hmark_any (a m p q : Nat) (c : Cf) (hc : c.Ok) (H : HS) (B : Bk) (w : World) (hH : IsHelp w a H) (hm : IsMem w m p q c B) (h1 : a ≠ m) (h2 : a ≠ p) (h3 : a ≠ q) (hF : H.Fit) (hst : H.st = .mark) (hB : B.Wd) :
    Calls Try.prog 91 #[.pointer (some ⟨a, 0, none⟩), .pointer (some ⟨m, 0, none⟩)] w fun e w' => e = .returned (.tuple #[]) ∧ IsHelp w' a (H.step c B).1 ∧ IsMem w' m p q c (H.step c B).2 ∧ Chg (Tri a p q) w w' := by
  have hl := mswap_any m p q c B H.h (6 + H.lv) H.s (hMk H.s) hF.h w.drew (hm.gr (Gr.refl w).drew)
  have hl0 : 0 ≤ H.lv := hF.lo (.inr hst)
  have hl1 : H.lv ≤ 10 := hF.hi
  have hmk := mark_any H.s hF.s
  have es : H.step c B = (if (B.swap (c.cel (hI H.h) (6 + H.lv)) (hPl H.h) H.s (hMk H.s)).last.done = true then HS.down H else ⟨.next, H.h, H.s, H.lv⟩, B.swap (c.cel (hI H.h) (6 + H.lv)) (hPl H.h) H.s (hMk H.s)) := by simp only [HS.step, hst]
  rw [es]
  clear es
  obtain ⟨st, h, s0, lv⟩ := H
  simp only at *
  subst hst
  have hlt := Blk.lt hH
  generalize hBl : B.swap (c.cel (hI h) (6 + lv)) (hPl h) s0 (hMk s0) = B' at *
  generalize hn : B'.last.done = n at *
  generalize hMk s0 = ms at *
  have HL := hid hl
  have HH := hid hH
  have HM := hid hm
  have HMK := hid hmk
  have HN := hid hn
  clear hl hH hm hBl hn hF hB hc hmk
  have hno : ¬ Two p q m := fun k => k.elim HM.out.nmp HM.out.nmq
  have hna : ¬ Two p q a := fun k => k.elim h2 h3
  have NO := hid hno
  have NA := hid hna
  clear hno hna
  go_enter Try.func91, Try.ntmps91
  go_wp2_with fail
  refine wp_region_anyC (n := 20) (Chg (Two p q) w) (by kernel_rfl) rfl ?_
  refine anyC_quiet (a1 := ?a1) (by kernel_rfl) 2 [0, 1, 2, 3, 4, 5, 6, 7, 8, 9, 10, 11, 12, 13, 14, 15, 16, 17] _ _ _ (by kernel_rfl) (by kernel_rfl) (Chg.refl _ w).drew ?_ ?_
  rotate_left
  · intro w' g'
    have hne : Nonempty (St (· = w')) := ⟨⟨w', rfl⟩⟩
    obtain ⟨z0, z1, z2, z3⟩ := IsHelp.c (Blk.chg HH.out g' NA.out)
    have x1 : ∀ s : St (· = w'), s.val.cell? ⟨a, 1, none⟩ = some (.int .u64 h) := fun s => by rw [s.ok]; exact z1
    have x2 : ∀ s : St (· = w'), s.val.cell? ⟨a, 2, none⟩ = some (.int .u64 s0) := fun s => by rw [s.ok]; exact z2
    have x3 : ∀ s : St (· = w'), s.val.cell? ⟨a, 3, none⟩ = some (.int .i64 lv) := fun s => by rw [s.ok]; exact z3
    clear g' z0 z1 z2 z3
    conv => arg 5; simp only [picked, List.filterMap_cons, List.filterMap_nil, List.getElem?_toArray, List.getElem?_cons_zero, List.getElem?_cons_succ]
    show wpQuiet _ _ _ _ [_, _, _, _, _, _, _, _, _, _, _, _, _, _, _, _, _, _] _
    repeat (go_big_quiet_step (fail))
    refine wpQuiet_nil ?_
    rfl
  refine anyC_alone 18 (Chg.refl _ w).drew (by kernel_rfl) (by kernel_rfl) ?_
  conv => arg 4; simp only [picked, List.filterMap_cons, List.filterMap_nil, List.getElem?_toArray, List.getElem?_cons_zero, List.getElem?_cons_succ]
  show wpList _ _ _ [_] _ _
  go_wp2_with fail
  refine (HMK.out _).mono ?_
  rintro e w0 ⟨rfl, rfl⟩
  go_wp2_with fail
  refine ⟨(Chg.refl _ w).drew, ?_⟩
  refine anyC_alone 19 (Chg.refl _ w).drew (by kernel_rfl) (by kernel_rfl) ?_
  conv => arg 4; simp only [picked, List.filterMap_cons, List.filterMap_nil, List.getElem?_toArray, List.getElem?_cons_zero, List.getElem?_cons_succ]
  show wpList _ _ _ [_] _ _
  go_wp2_with fail
  refine HL.out.mono ?_
  rintro e w1 ⟨rfl, hb, g1⟩
  have X := (Blk.drew HM.out.mem).chg g1 NO.out
  have Y : IsHelp w1 a ⟨.mark, h, s0, lv⟩ := Blk.chg (Blk.drew HH.out) g1 NA.out
  have C1 := hid (Chg.trans (Chg.refl _ w).drew g1)
  have AM := hid (⟨X, hb, HM.out.nmp, HM.out.nmq⟩ : IsMem w1 m p q c B')
  have AY := hid Y
  clear X Y hb g1
  go_wp2_with fail
  refine ⟨C1.out, by kernel_rfl, ?_⟩
  obtain ⟨y0, y1, y2, y3⟩ := IsHelp.c AY.out
  have hla := Blk.lt AY.out
  have hfa := fun i => Blk.free AY.out i
  have AC := hid (Chg.mono C1.out (fun k hk => .inr hk) : Chg (Tri a p q) w w1)
  cases n
  · go_wp2_with fail
    go_end0
    exact ⟨rfl, by first | exact st_blk .next AY.out | (rw [if_neg (by decide)]; exact st_blk .next AY.out), AM.out.chg (Chg.set1 (Chg.refl (· = a) w1) 0 _) (by simpa using Ne.symm h1) (by simpa using Ne.symm h2) (by simpa using Ne.symm h3), Chg.trans AC.out (Chg.mono (Chg.set1 (Chg.refl (· = a) w1) 0 _) fun k hk => .inl hk)⟩
  · go_wp2_with fail
    refine (hdown_any a ⟨.mark, h, s0, lv⟩ w1 AY.out hl0 hl1).mono ?_
    rintro e w4 ⟨rfl, hh4, g4⟩
    go_wp2_with fail
    first | go_end0 | refine bodyPost_ret (results_none rfl _ _ _) rfl ?_
    exact ⟨rfl, by first | exact hh4 | (rw [if_pos rfl]; exact hh4), AM.out.chg g4 (by simpa using Ne.symm h1) (by simpa using Ne.symm h2) (by simpa using Ne.symm h3), Chg.trans AC.out (Chg.mono g4 fun k hk => .inl hk)⟩

set_option maxRecDepth 100000 in
set_option maxHeartbeats 1000000 in
/-- A step. -/
theorem hstep_any (a m p q : Nat) (c : Cf) (hc : c.Ok) (H : HS) (B : Bk) (w : World) (hH : IsHelp w a H) (hm : IsMem w m p q c B) (h1 : a ≠ m) (h2 : a ≠ p) (h3 : a ≠ q) (hF : H.Fit) (hB : B.Wd) :
    Calls Try.prog 31 #[.pointer (some ⟨a, 0, none⟩), .pointer (some ⟨m, 0, none⟩)] w fun e w' => e = .returned (.tuple #[]) ∧ IsHelp w' a (H.step c B).1 ∧ IsMem w' m p q c (H.step c B).2 ∧ Chg (Tri a p q) w w' := by
  obtain ⟨c0, c1, c2, c3⟩ := hH.c
  have hlt := Blk.lt hH
  have n1 := neq_nil
  have n2 := neq_fun
  cases hst : H.st with
  | done =>
    have es : H.step c B = (H, B) := by simp only [HS.step, hst]
    rw [es]
    rw [hst] at c0
    unfold Wh.val at c0
    have HH := hid hH
    have HM := hid hm
    clear hH hm hF hB hc hst es
    go_enter Try.func31, Try.ntmps31
    go_wp2_with fail
    go_end0
    exact ⟨rfl, HH.out, HM.out, Chg.refl _ _⟩
  | tall =>
    have hw := htall_any a m p q c hc H B w hH hm h1 h2 h3 hF hst hB
    generalize H.step c B = R at *
    rw [hst] at c0
    unfold Wh.val at c0
    have HW := hid hw
    clear hw hH hm hF hB hc hst
    go_enter Try.func31, Try.ntmps31
    go_wp2_with fail
    refine HW.out.mono ?_
    rintro e w1 ⟨rfl, g1, g2, g3⟩
    go_wp2_with fail
    go_end0
    exact ⟨rfl, g1, g2, g3⟩
  | next =>
    have hw := hnext_any a m p q c hc H B w hH hm h1 h2 h3 hF hst hB
    generalize H.step c B = R at *
    rw [hst] at c0
    unfold Wh.val at c0
    have HW := hid hw
    clear hw hH hm hF hB hc hst
    go_enter Try.func31, Try.ntmps31
    go_wp2_with fail
    refine HW.out.mono ?_
    rintro e w1 ⟨rfl, g1, g2, g3⟩
    go_wp2_with fail
    go_end0
    exact ⟨rfl, g1, g2, g3⟩
  | mark =>
    have hw := hmark_any a m p q c hc H B w hH hm h1 h2 h3 hF hst hB
    generalize H.step c B = R at *
    rw [hst] at c0
    unfold Wh.val at c0
    have HW := hid hw
    clear hw hH hm hF hB hc hst
    go_enter Try.func31, Try.ntmps31
    go_wp2_with fail
    refine HW.out.mono ?_
    rintro e w1 ⟨rfl, g1, g2, g3⟩
    go_wp2_with fail
    go_end0
    exact ⟨rfl, g1, g2, g3⟩
end Go.Proofs.YthbkncklliiooaaH
