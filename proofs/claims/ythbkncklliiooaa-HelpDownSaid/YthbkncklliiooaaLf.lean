/-
  HelpDown: the walk.
-/
import Derived.Test.YthbkncklliiooaaHv
import Derived.Test.YthbkncklliiooaaNl
import Derived.Test.YthbkncklliiooaaOpen
namespace Go.Proofs.YthbkncklliiooaaH
set_option linter.unusedVariables false
set_option linter.unusedSimpArgs false
open Go.RowKit Go.Proofs.Ythbkncklliiooaa.Q Go.Proofs.YthbkncklliiooaaW.PrintWords

set_option maxRecDepth 100000 in
set_option maxHeartbeats 4000000 in
theorem down_wrong (c : Cf) (ns : List S69) (A1 : Option Addr) (cap1 : Nat) (h : Int) (hh : U64 h) (A : Option Addr) (L : List Bool) (capL : Nat) (w : World) (hk : NRow w A1 ns) (hc1 : ns.length ≤ cap1) (hrc : ∀ (A : Option Addr) (cap : Nat) (w : World), NRow w A ns → ns.length ≤ cap → Calls Try.prog 36 #[c.val, .slice A ns.length cap] w fun e w' => e = .returned (.bool false) ∧ Gr w w') :
    Calls Try.prog 10 #[.agg #[.int .i64 c.th, .int .i64 c.sl, .int .i64 c.cp, .int .i64 c.he, .int .i64 c.ke, .int .i64 c.ev, .int .i64 c.la], .slice A1 ns.length cap1, .agg #[.int .u64 h, .slice A L.length capL]] w fun e w' => e = .returned (.bool true) ∧ Gr w w' := by
  have hr := hrc
  unfold Cf.val at hr
  have HR := hid hr
  have HK := hid hk
  have HC1 := hid hc1
  clear hr hk hrc hc1
  go_enter Try.func10, Try.ntmps10
  go_wp2_with fail
  have G0 := hid (((Gr.refl w).alloc (.cells #[.int .i64 c.th, .int .i64 c.sl, .int .i64 c.cp, .int .i64 c.he, .int .i64 c.ke, .int .i64 c.ev, .int .i64 c.la] 23)).alloc (.cells #[.int .u64 h, .slice A L.length capL] 43))
  have AX := hid ((Blk.new w #[.int .i64 c.th, .int .i64 c.sl, .int .i64 c.cp, .int .i64 c.he, .int .i64 c.ke, .int .i64 c.ev, .int .i64 c.la] 23).alloc (.cells #[.int .u64 h, .slice A L.length capL] 43))
  have AZ : Hid (Blk ((w.alloc (.cells #[.int .i64 c.th, .int .i64 c.sl, .int .i64 c.cp, .int .i64 c.he, .int .i64 c.ke, .int .i64 c.ev, .int .i64 c.la] 23)).alloc (.cells #[.int .u64 h, .slice A L.length capL] 43)) (w.heap.size + 1) #[.int .u64 h, .slice A L.length capL] 43) := hid (Blk.new' (by simp))
  generalize ((w.alloc (.cells #[.int .i64 c.th, .int .i64 c.sl, .int .i64 c.cp, .int .i64 c.he, .int .i64 c.ke, .int .i64 c.ev, .int .i64 c.la] 23)).alloc (.cells #[.int .u64 h, .slice A L.length capL] 43)) = w0 at *
  refine (HR.out _ _ _ (HK.out.gr G0.out) HC1.out).mono ?_
  rintro e w1 ⟨rfl, g1⟩
  have BX := hid (Blk.gr AX.out g1)
  have BZ := hid (Blk.gr AZ.out g1)
  have G1 := hid (Gr.trans G0.out g1)
  clear g1 AX AZ G0
  have z1 := BZ.out.cell (i := 1) rfl
  go_wp2_with fail
  refine (halive _).mono ?_
  rintro e W8 ⟨rfl, g8⟩
  go_wp2_with fail
  go_ret
  exact ⟨rfl, Gr.trans G1.out g8⟩

set_option maxRecDepth 100000 in
set_option maxHeartbeats 4000000 in
theorem down_long (c : Cf) (ns : List S69) (A1 : Option Addr) (cap1 : Nat) (h : Int) (hh : U64 h) (A : Option Addr) (L : List Bool) (capL : Nat) (w : World) (hk : NRow w A1 ns) (hc1 : ns.length ≤ cap1) (hrc : ∀ (A : Option Addr) (cap : Nat) (w : World), NRow w A ns → ns.length ≤ cap → Calls Try.prog 36 #[c.val, .slice A ns.length cap] w fun e w' => e = .returned (.bool true) ∧ Gr w w') (hlong : 100 < L.length) :
    Calls Try.prog 10 #[.agg #[.int .i64 c.th, .int .i64 c.sl, .int .i64 c.cp, .int .i64 c.he, .int .i64 c.ke, .int .i64 c.ev, .int .i64 c.la], .slice A1 ns.length cap1, .agg #[.int .u64 h, .slice A L.length capL]] w fun e w' => e = .returned (.bool true) ∧ Gr w w' := by
  have hd : decide (100 < (L.length : Int)) = true := by simp; omega
  have hr := hrc
  unfold Cf.val at hr
  have HR := hid hr
  have HK := hid hk
  have HC1 := hid hc1
  clear hr hk hrc hc1
  go_enter Try.func10, Try.ntmps10
  go_wp2_with fail
  have G0 := hid (((Gr.refl w).alloc (.cells #[.int .i64 c.th, .int .i64 c.sl, .int .i64 c.cp, .int .i64 c.he, .int .i64 c.ke, .int .i64 c.ev, .int .i64 c.la] 23)).alloc (.cells #[.int .u64 h, .slice A L.length capL] 43))
  have AX := hid ((Blk.new w #[.int .i64 c.th, .int .i64 c.sl, .int .i64 c.cp, .int .i64 c.he, .int .i64 c.ke, .int .i64 c.ev, .int .i64 c.la] 23).alloc (.cells #[.int .u64 h, .slice A L.length capL] 43))
  have AZ : Hid (Blk ((w.alloc (.cells #[.int .i64 c.th, .int .i64 c.sl, .int .i64 c.cp, .int .i64 c.he, .int .i64 c.ke, .int .i64 c.ev, .int .i64 c.la] 23)).alloc (.cells #[.int .u64 h, .slice A L.length capL] 43)) (w.heap.size + 1) #[.int .u64 h, .slice A L.length capL] 43) := hid (Blk.new' (by simp))
  generalize ((w.alloc (.cells #[.int .i64 c.th, .int .i64 c.sl, .int .i64 c.cp, .int .i64 c.he, .int .i64 c.ke, .int .i64 c.ev, .int .i64 c.la] 23)).alloc (.cells #[.int .u64 h, .slice A L.length capL] 43)) = w0 at *
  refine (HR.out _ _ _ (HK.out.gr G0.out) HC1.out).mono ?_
  rintro e w1 ⟨rfl, g1⟩
  have BX := hid (Blk.gr AX.out g1)
  have BZ := hid (Blk.gr AZ.out g1)
  have G1 := hid (Gr.trans G0.out g1)
  clear g1 AX AZ G0
  have z1 := BZ.out.cell (i := 1) rfl
  go_wp2_with fail
  refine (halive _).mono ?_
  rintro e W8 ⟨rfl, g8⟩
  go_wp2_with fail
  go_ret
  exact ⟨rfl, Gr.trans G1.out g8⟩

set_option maxRecDepth 100000 in
set_option maxHeartbeats 4000000 in
theorem down_out (c : Cf) (ns : List S69) (A1 : Option Addr) (cap1 : Nat) (h : Int) (hh : U64 h) (A : Option Addr) (L : List Bool) (capL : Nat) (w : World) (hk : NRow w A1 ns) (hc1 : ns.length ≤ cap1) (hrc : ∀ (A : Option Addr) (cap : Nat) (w : World), NRow w A ns → ns.length ≤ cap → Calls Try.prog 36 #[c.val, .slice A ns.length cap] w fun e w' => e = .returned (.bool true) ∧ Gr w w') (hlong : ¬ 100 < L.length) (N : NodesOk c ns) (F : ∀ n ∈ ns, U64 n.f0 ∧ U64 n.f1) (hout : hI h - 1 < 0 ∨ ns.length ≤ hI h - 1) :
    Calls Try.prog 10 #[.agg #[.int .i64 c.th, .int .i64 c.sl, .int .i64 c.cp, .int .i64 c.he, .int .i64 c.ke, .int .i64 c.ev, .int .i64 c.la], .slice A1 ns.length cap1, .agg #[.int .u64 h, .slice A L.length capL]] w fun e w' => e = .returned (.bool true) ∧ Gr w w' := by
  have HOUT := hid hout
  obtain ⟨l, P, hly0⟩ := lay_words c ns N F
  have hof0 := fun v w hv => mof_any c N.ok v l w hv P.len
  unfold Cf.val at hly0 hof0
  have HLY := hid hly0
  have HOF := hid hof0
  have hd : decide (100 < (L.length : Int)) = false := by simp; omega
  clear hly0 hof0
  have hr := hrc
  unfold Cf.val at hr
  have HR := hid hr
  have HK := hid hk
  have HC1 := hid hc1
  clear hr hk hrc hc1
  go_enter Try.func10, Try.ntmps10
  go_wp2_with fail
  have G0 := hid (((Gr.refl w).alloc (.cells #[.int .i64 c.th, .int .i64 c.sl, .int .i64 c.cp, .int .i64 c.he, .int .i64 c.ke, .int .i64 c.ev, .int .i64 c.la] 23)).alloc (.cells #[.int .u64 h, .slice A L.length capL] 43))
  have AX := hid ((Blk.new w #[.int .i64 c.th, .int .i64 c.sl, .int .i64 c.cp, .int .i64 c.he, .int .i64 c.ke, .int .i64 c.ev, .int .i64 c.la] 23).alloc (.cells #[.int .u64 h, .slice A L.length capL] 43))
  have AZ : Hid (Blk ((w.alloc (.cells #[.int .i64 c.th, .int .i64 c.sl, .int .i64 c.cp, .int .i64 c.he, .int .i64 c.ke, .int .i64 c.ev, .int .i64 c.la] 23)).alloc (.cells #[.int .u64 h, .slice A L.length capL] 43)) (w.heap.size + 1) #[.int .u64 h, .slice A L.length capL] 43) := hid (Blk.new' (by simp))
  generalize ((w.alloc (.cells #[.int .i64 c.th, .int .i64 c.sl, .int .i64 c.cp, .int .i64 c.he, .int .i64 c.ke, .int .i64 c.ev, .int .i64 c.la] 23)).alloc (.cells #[.int .u64 h, .slice A L.length capL] 43)) = w0 at *
  refine (HR.out _ _ _ (HK.out.gr G0.out) HC1.out).mono ?_
  rintro e w1 ⟨rfl, g1⟩
  have BX := hid (Blk.gr AX.out g1)
  have BZ := hid (Blk.gr AZ.out g1)
  have G1 := hid (Gr.trans G0.out g1)
  clear g1 AX AZ G0
  have z1 := BZ.out.cell (i := 1) rfl
  go_wp2_with fail
  clear z1
  have hz1 := HK.out
  refine wp_region_anyC (n := 10) (Gr w1) (by kernel_rfl) rfl ?_
  refine anyC_quiet (a1 := ?a1) (by kernel_rfl) 7 [0, 1, 2] _ _ _ (by kernel_rfl) (by kernel_rfl) (Gr.refl w1).drew ?_ ?_
  rotate_left
  · intro w' g'
    have hne : Nonempty (St (· = w')) := ⟨⟨w', rfl⟩⟩
    have X3 := BX.out.gr g'
    have y0 : ∀ s : St (· = w'), s.val.cell? ⟨w.heap.size, 0, none⟩ = some (.int .i64 c.th) := fun s => by rw [s.ok]; exact X3.cell rfl
    have y1 : ∀ s : St (· = w'), s.val.cell? ⟨w.heap.size, 1, none⟩ = some (.int .i64 c.sl) := fun s => by rw [s.ok]; exact X3.cell rfl
    have y2 : ∀ s : St (· = w'), s.val.cell? ⟨w.heap.size, 2, none⟩ = some (.int .i64 c.cp) := fun s => by rw [s.ok]; exact X3.cell rfl
    have y3 : ∀ s : St (· = w'), s.val.cell? ⟨w.heap.size, 3, none⟩ = some (.int .i64 c.he) := fun s => by rw [s.ok]; exact X3.cell rfl
    have y4 : ∀ s : St (· = w'), s.val.cell? ⟨w.heap.size, 4, none⟩ = some (.int .i64 c.ke) := fun s => by rw [s.ok]; exact X3.cell rfl
    have y5 : ∀ s : St (· = w'), s.val.cell? ⟨w.heap.size, 5, none⟩ = some (.int .i64 c.ev) := fun s => by rw [s.ok]; exact X3.cell rfl
    have y6 : ∀ s : St (· = w'), s.val.cell? ⟨w.heap.size, 6, none⟩ = some (.int .i64 c.la) := fun s => by rw [s.ok]; exact X3.cell rfl
    clear X3 g'
    conv => arg 5; simp only [picked, List.filterMap_cons, List.filterMap_nil, List.getElem?_toArray, List.getElem?_cons_zero, List.getElem?_cons_succ]
    show wpQuiet _ _ _ _ [_, _, _] _
    repeat (go_big_quiet_step (fail))
    refine wpQuiet_nil ?_
    rfl
  have HKd : Hid (NRow w1.drew A1 ns) := hid (HK.out.gr (G1.out.drew))
  refine anyC_alone 3 (Gr.refl w1).drew (by kernel_rfl) (by kernel_rfl) ?_
  conv => arg 4; simp only [picked, List.filterMap_cons, List.filterMap_nil, List.getElem?_toArray, List.getElem?_cons_zero, List.getElem?_cons_succ]
  show wpList _ _ _ [_] _ _
  go_wp2_with fail
  refine (HLY.out _ _ _ HKd.out HC1.out).mono ?_
  rintro e w2 ⟨⟨v, rfl, hw2⟩, g2⟩
  have W2 := hid hw2
  have C2 : Hid (Gr w1 w2) := hid (Gr.trans (Gr.refl w1).drew g2)
  clear hw2 g2
  go_wp2_with fail
  refine ⟨C2.out, ?_⟩
  refine anyC_alone 4 C2.out (by kernel_rfl) (by kernel_rfl) ?_
  conv => arg 4; simp only [picked, List.filterMap_cons, List.filterMap_nil, List.getElem?_toArray, List.getElem?_cons_zero, List.getElem?_cons_succ]
  show wpList _ _ _ [_] _ _
  go_wp2_with fail
  refine (HOF.out v w2 W2.out).mono ?_
  rintro e w3 ⟨m, p, q, rfl, hm3, g3, sm, sp, sq⟩
  have M3 := hid hm3
  have C3 := hid (Gr.trans C2.out g3)
  have SS := hid (⟨sm, sp, sq⟩ : _ ∧ _ ∧ _)
  clear g3 hm3 sm sp sq
  go_wp2_with fail
  refine ⟨C3.out, ?_⟩
  refine anyC_quiet (a1 := ?a2) (by kernel_rfl) 0 [5, 6, 7, 8, 9] _ _ _ (by kernel_rfl) (by kernel_rfl) C3.out ?_ ?_
  rotate_left
  · intro w' g'
    have hne : Nonempty (St (· = w')) := ⟨⟨w', rfl⟩⟩
    clear g'
    conv => arg 5; simp only [picked, List.filterMap_cons, List.filterMap_nil, List.getElem?_toArray, List.getElem?_cons_zero, List.getElem?_cons_succ]
    show wpQuiet _ _ _ _ [_, _, _, _, _] _
    repeat (go_big_quiet_step (fail))
    refine wpQuiet_nil ?_
    rfl
  refine ⟨by kernel_rfl, ?_⟩
  have BX3 := hid (BX.out.gr C3.out)
  have BZ3 := hid (BZ.out.gr C3.out)
  have G3 := hid (Gr.trans G1.out C3.out)
  clear BZ
  go_wp2_with fail
  refine wp_region_anyC (n := 8) (Gr w3) (by kernel_rfl) rfl ?_
  refine anyC_quiet (a1 := ?a3) (by kernel_rfl) 4 [0, 1, 3, 4] _ _ _ (by kernel_rfl) (by kernel_rfl) (Gr.refl w3).drew ?_ ?_
  rotate_left
  · intro w' g'
    have hne : Nonempty (St (· = w')) := ⟨⟨w', rfl⟩⟩
    have X3 := BZ3.out.gr g'
    have y0 : ∀ s : St (· = w'), s.val.cell? ⟨w.heap.size + 1, 0, none⟩ = some (.int .u64 h) := fun s => by rw [s.ok]; exact X3.cell rfl
    clear X3 g'
    conv => arg 5; simp only [picked, List.filterMap_cons, List.filterMap_nil, List.getElem?_toArray, List.getElem?_cons_zero, List.getElem?_cons_succ]
    show wpQuiet _ _ _ _ [_, _, _, _] _
    repeat (go_big_quiet_step (fail))
    refine wpQuiet_nil ?_
    rfl
  refine anyC_alone 2 (Gr.refl w3).drew (by kernel_rfl) (by kernel_rfl) ?_
  conv => arg 4; simp only [picked, List.filterMap_cons, List.filterMap_nil, List.getElem?_toArray, List.getElem?_cons_zero, List.getElem?_cons_succ]
  show wpList _ _ _ [_] _ _
  go_wp2_with fail
  refine (hnew_any h _).mono ?_
  rintro e w6 ⟨rfl, rfl⟩
  go_wp2_with fail
  refine ⟨(Gr.refl w3).drew.alloc _, ?_⟩
  refine anyC_alone 5 ((Gr.refl w3).drew.alloc _) (by kernel_rfl) (by kernel_rfl) ?_
  conv => arg 4; simp only [picked, List.filterMap_cons, List.filterMap_nil, List.getElem?_toArray, List.getElem?_cons_zero, List.getElem?_cons_succ]
  show wpList _ _ _ [_] _ _
  go_wp2_with fail
  refine (hnew_any h _).mono ?_
  rintro e w6 ⟨rfl, rfl⟩
  have G6 : Hid (Gr w3 (((w3.alloc (.cells (helpRow (HS.new h)) 98)).alloc (.cells (helpRow (HS.new h)) 98)).drew)) := hid ((((Gr.refl w3).alloc _).alloc _).drew)
  have A1' : Hid (Blk (((w3.alloc (.cells (helpRow (HS.new h)) 98)).alloc (.cells (helpRow (HS.new h)) 98)).drew) w3.heap.size (helpRow (HS.new h)) 98) := hid (Blk.drew ((Blk.new' rfl).alloc _))
  have A2' : Hid (Blk (((w3.alloc (.cells (helpRow (HS.new h)) 98)).alloc (.cells (helpRow (HS.new h)) 98)).drew) (w3.heap.size + 1) (helpRow (HS.new h)) 98) := hid (Blk.drew (Blk.new' (by simp)))
  go_wp2_with fail
  generalize (((w3.alloc (.cells (helpRow (HS.new h)) 98)).alloc (.cells (helpRow (HS.new h)) 98)).drew) = W6 at *
  refine ⟨G6.out, ?_⟩
  refine anyC_quiet (a1 := ?a4) (by kernel_rfl) 0 [6, 7] _ _ _ (by kernel_rfl) (by kernel_rfl) G6.out ?_ ?_
  rotate_left
  · intro w' g'
    have hne : Nonempty (St (· = w')) := ⟨⟨w', rfl⟩⟩
    clear g'
    conv => arg 5; simp only [picked, List.filterMap_cons, List.filterMap_nil, List.getElem?_toArray, List.getElem?_cons_zero, List.getElem?_cons_succ]
    show wpQuiet _ _ _ _ [_, _] _
    repeat (go_big_quiet_step (fail))
    refine wpQuiet_nil ?_
    rfl
  refine ⟨by kernel_rfl, ?_⟩
  have HIX := hid (index_any h hh)
  have mlt : m < w3.heap.size := M3.out.mem.lt
  have plt : p < w3.heap.size := M3.out.bank.head.lt
  have qlt : q < w3.heap.size := M3.out.bank.row.lt
  have CZ := hid (BZ3.out.gr G6.out)
  have z0 := CZ.out.cell (i := 0) rfl
  have hwk : wrap64 (hI h - 1) = hI h - 1 := w64 (by unfold hI; omega) (by unfold hI; omega)
  go_wp2_with fail
  refine (HIX.out _).mono ?_
  rintro e w7 ⟨rfl, g7⟩
  go_wp2_with fail
  all_goals first | (exfalso; have := HOUT.out; omega) | skip
  all_goals
    refine (halive _).mono ?_
    rintro e W8 ⟨rfl, g8⟩
    go_wp2_with fail
    go_ret
    exact ⟨rfl, Gr.trans G3.out (Gr.trans G6.out (Gr.trans g7 g8))⟩

/-- Two helps of one node: above a level that has the mark all have. -/
structure Dn (c : Cf) (h : Int) (T : Nat) (Ha Hb : HS) (B : Bk) : Prop where
  row : Row c h T B.cells
  a : Hinv c h T Ha B.cells
  b : Hinv c h T Hb B.cells
  fa : Ha.Fit
  fb : Hb.Fit
  up : Upper c h T B.cells
theorem Dn.swap {c : Cf} {h : Int} {T : Nat} {Ha Hb : HS} {B : Bk} (t : Dn c h T Ha Hb B) : Dn c h T Hb Ha B := ⟨t.row, t.b, t.a, t.fb, t.fa, t.up⟩
theorem Dn.step {c : Cf} {h : Int} {T : Nat} (C : Ctx c h T) {Ha Hb : HS} {B : Bk} (t : Dn c h T Ha Hb B) : Dn c h T (Ha.step c B).1 Hb (Ha.step c B).2 := by
  obtain ⟨m, I⟩ := step_mk C t.row t.a
  exact ⟨m.row C t.row, I, m.hinv C t.row t.b, step_fit c C.ok t.fa t.row.wd, t.fb, m.upper C t.row t.up⟩
theorem Dn.new {c : Cf} {h : Int} {T : Nat} {l : List Int} (R0 : Row c h T l) (hh : U64 h) (U : Upper c h T l) : Dn c h T (HS.new h) (HS.new h) ⟨l, 0, Acc.zero⟩ :=
  ⟨R0, ⟨rfl, (fun e => by rcases e with e | e <;> cases e), (fun e => by cases e)⟩, ⟨rfl, (fun e => by rcases e with e | e <;> cases e), (fun e => by cases e)⟩, new_fit hh, new_fit hh, U⟩

theorem dn_meas {T j : Nat} (h : j + 1 < T) (e : wrap64 ((j : Int) + 1 + 1) = (j : Int) + 1 + 1) : T - (intOf (.int .i64 (wrap64 ((j : Int) + 1 + 1)))).toNat < T - (intOf (.int .i64 ((j + 1 : Nat) : Int))).toNat := by
  rw [e]; simp [intOf]; omega
theorem dn_numr {j : Nat} (e : wrap64 ((j : Int) + 1 + 1) = (j : Int) + 1 + 1) : Value.int .i64 (wrap64 ((j : Int) + 1 + 1)) = Value.int .i64 ((j + 1 + 1 : Nat) : Int) := by
  rw [e]; simp
/-- What the law asks of one level and the next. -/
theorem Dn.lev {c : Cf} {h : Int} {T : Nat} (C : Ctx c h T) {Ha Hb : HS} {B : Bk} (t : Dn c h T Ha Hb B) {j : Nat} (hj : j + 1 < T) {k : Int} (hk : wrap64 (k + 1) = hI h) :
    ∃ (x y : Nat) (xl xh : Int), ((x : Int) < B.cells.length ∧ (y : Int) < B.cells.length) ∧ Hid (U64 xl ∧ U64 xh ∧ (hM xl = true → hM xh = true) ∧ (wordsRow B.cells)[x]? = some (.int .u64 xl) ∧ (wordsRow B.cells)[y]? = some (.int .u64 xh)) ∧
      Hid (∀ w, Calls Try.prog 21 #[c.val, .int .i64 (wrap64 (k + 1)), .int .i64 (wrap64 (wrap64 (6 + ((j : Int) + 1)) - 1))] w fun e w' => e = .returned (.int .i64 ((x : Nat) : Int)) ∧ Gr w w') ∧
      Hid (∀ w, Calls Try.prog 21 #[c.val, .int .i64 (wrap64 (k + 1)), .int .i64 (wrap64 (6 + ((j : Int) + 1)))] w fun e w' => e = .returned (.int .i64 ((y : Nat) : Int)) ∧ Gr w w') ∧
      Hid (wrap64 ((j : Int) + 1 + 1) = (j : Int) + 1 + 1) ∧ ((j + 1 : Nat) : Int) < (T : Int) := by
  have lv0 := C.lv (n := j) (by omega)
  have lv1 := C.lv (n := j + 1) hj
  simp only [Int.natCast_add, Int.natCast_one] at lv1
  have rl := t.row.len
  have h6 : T ≤ 6 := by have := C.t1; have := C.ok.2.2.2.2.2.2.2.1; omega
  have l0 : lc c h j < B.cells.length := by omega
  have l1 : lc c h (j + 1) < B.cells.length := by omega
  refine ⟨lc c h j, lc c h (j + 1), B.cells.getD (lc c h j) 0, B.cells.getD (lc c h (j + 1)) 0, ⟨by omega, by omega⟩, ⟨getD_u64 t.row.wd _, getD_u64 t.row.wd _, t.up j hj, by simp [wordsRow_get, List.getD, l0], by simp [wordsRow_get, List.getD, l1]⟩, ?_, ?_, hid (w64 (by omega) (by omega)), by omega⟩
  · rw [hk, w64 (x := 6 + ((j : Int) + 1)) (by omega) (by omega), show 6 + ((j : Int) + 1) - 1 = 6 + (j : Int) by omega, w64 (by omega) (by omega)]
    exact hid (fun w => (cell_any c (hI h) (6 + (j : Int)) w).mono fun e w' hq => ⟨by rw [hq.1, lv0.1], hq.2⟩)
  · rw [hk, w64 (x := 6 + ((j : Int) + 1)) (by omega) (by omega)]
    exact hid (fun w => (cell_any c (hI h) (6 + ((j : Int) + 1)) w).mono fun e w' hq => ⟨by rw [hq.1, lv1.1], hq.2⟩)

set_option maxRecDepth 100000 in
set_option maxHeartbeats 4000000 in
theorem down_main_some (c : Cf) (ns : List S69) (b0 : Addr) (cap1 : Nat) (h : Int) (hh : U64 h) (a0 : Addr) (L : List Bool) (capL : Nat) (w : World) (hk : NRow w (some b0) ns) (hc1 : ns.length ≤ cap1) (hrc : ∀ (A : Option Addr) (cap : Nat) (w : World), NRow w A ns → ns.length ≤ cap → Calls Try.prog 36 #[c.val, .slice A ns.length cap] w fun e w' => e = .returned (.bool true) ∧ Gr w w') (hlong : ¬ 100 < L.length) (N : NodesOk c ns) (F : ∀ n ∈ ns, U64 n.f0 ∧ U64 n.f1) (k : Nat) (hkl : k < ns.length) (hi : hI h = (k : Int) + 1) (hL : ∀ i, i < L.length → w.cell? (a0.add i) = some (.bool (L.getD i false))) :
    Calls Try.prog 10 #[.agg #[.int .i64 c.th, .int .i64 c.sl, .int .i64 c.cp, .int .i64 c.he, .int .i64 c.ke, .int .i64 c.ev, .int .i64 c.la], .slice (some b0) ns.length cap1, .agg #[.int .u64 h, .slice (some a0) L.length capL]] w fun e w' => e = .returned (.bool true) ∧ Gr w w' := by
  obtain ⟨l, P, hly0⟩ := lay_words c ns N F
  have hof0 := fun v w hv => mof_any c N.ok v l w hv P.len
  unfold Cf.val at hly0 hof0
  have HLY := hid hly0
  have HOF := hid hof0
  have hd : decide (100 < (L.length : Int)) = false := by simp; omega
  clear hly0 hof0
  obtain ⟨T, hT, C, R, U⟩ := part_ctx N P hh hkl hi
  have hik : hI h - 1 = (k : Int) := by omega
  have hk0 : 0 ≤ (k : Int) := by omega
  have hcp : c.cp ≤ 64 := N.ok.2.2.2.2.2.1
  have hwk2 : wrap64 (k : Int) = (k : Int) := by have := N.room; exact w64 (by omega) (by omega)
  have hkl' : (k : Int) < ns.length := by omega
  have EK := hid (show wrap64 ((k : Int) + 1) = hI h by have := N.room; rw [w64 (by omega) (by omega)]; omega)
  have CT := hid C
  have HT := hid hT
  have HOK := hid C.ok
  have T0 := hid (Dn.new R hh U)
  have HLL := hid hL
  clear hT C R U hL hi hcp
  have hr := hrc
  unfold Cf.val at hr
  have HR := hid hr
  have HK := hid hk
  have HC1 := hid hc1
  clear hr hk hrc hc1
  go_enter Try.func10, Try.ntmps10
  go_wp2_with fail
  have G0 := hid (((Gr.refl w).alloc (.cells #[.int .i64 c.th, .int .i64 c.sl, .int .i64 c.cp, .int .i64 c.he, .int .i64 c.ke, .int .i64 c.ev, .int .i64 c.la] 23)).alloc (.cells #[.int .u64 h, .slice (some a0) L.length capL] 43))
  have AX := hid ((Blk.new w #[.int .i64 c.th, .int .i64 c.sl, .int .i64 c.cp, .int .i64 c.he, .int .i64 c.ke, .int .i64 c.ev, .int .i64 c.la] 23).alloc (.cells #[.int .u64 h, .slice (some a0) L.length capL] 43))
  have AZ : Hid (Blk ((w.alloc (.cells #[.int .i64 c.th, .int .i64 c.sl, .int .i64 c.cp, .int .i64 c.he, .int .i64 c.ke, .int .i64 c.ev, .int .i64 c.la] 23)).alloc (.cells #[.int .u64 h, .slice (some a0) L.length capL] 43)) (w.heap.size + 1) #[.int .u64 h, .slice (some a0) L.length capL] 43) := hid (Blk.new' (by simp))
  generalize ((w.alloc (.cells #[.int .i64 c.th, .int .i64 c.sl, .int .i64 c.cp, .int .i64 c.he, .int .i64 c.ke, .int .i64 c.ev, .int .i64 c.la] 23)).alloc (.cells #[.int .u64 h, .slice (some a0) L.length capL] 43)) = w0 at *
  refine (HR.out _ _ _ (HK.out.gr G0.out) HC1.out).mono ?_
  rintro e w1 ⟨rfl, g1⟩
  have BX := hid (Blk.gr AX.out g1)
  have BZ := hid (Blk.gr AZ.out g1)
  have G1 := hid (Gr.trans G0.out g1)
  clear g1 AX AZ G0
  have z1 := BZ.out.cell (i := 1) rfl
  go_wp2_with fail
  clear z1
  have hz1 := HK.out
  refine wp_region_anyC (n := 10) (Gr w1) (by kernel_rfl) rfl ?_
  refine anyC_quiet (a1 := ?a1) (by kernel_rfl) 7 [0, 1, 2] _ _ _ (by kernel_rfl) (by kernel_rfl) (Gr.refl w1).drew ?_ ?_
  rotate_left
  · intro w' g'
    have hne : Nonempty (St (· = w')) := ⟨⟨w', rfl⟩⟩
    have X3 := BX.out.gr g'
    have y0 : ∀ s : St (· = w'), s.val.cell? ⟨w.heap.size, 0, none⟩ = some (.int .i64 c.th) := fun s => by rw [s.ok]; exact X3.cell rfl
    have y1 : ∀ s : St (· = w'), s.val.cell? ⟨w.heap.size, 1, none⟩ = some (.int .i64 c.sl) := fun s => by rw [s.ok]; exact X3.cell rfl
    have y2 : ∀ s : St (· = w'), s.val.cell? ⟨w.heap.size, 2, none⟩ = some (.int .i64 c.cp) := fun s => by rw [s.ok]; exact X3.cell rfl
    have y3 : ∀ s : St (· = w'), s.val.cell? ⟨w.heap.size, 3, none⟩ = some (.int .i64 c.he) := fun s => by rw [s.ok]; exact X3.cell rfl
    have y4 : ∀ s : St (· = w'), s.val.cell? ⟨w.heap.size, 4, none⟩ = some (.int .i64 c.ke) := fun s => by rw [s.ok]; exact X3.cell rfl
    have y5 : ∀ s : St (· = w'), s.val.cell? ⟨w.heap.size, 5, none⟩ = some (.int .i64 c.ev) := fun s => by rw [s.ok]; exact X3.cell rfl
    have y6 : ∀ s : St (· = w'), s.val.cell? ⟨w.heap.size, 6, none⟩ = some (.int .i64 c.la) := fun s => by rw [s.ok]; exact X3.cell rfl
    clear X3 g'
    conv => arg 5; simp only [picked, List.filterMap_cons, List.filterMap_nil, List.getElem?_toArray, List.getElem?_cons_zero, List.getElem?_cons_succ]
    show wpQuiet _ _ _ _ [_, _, _] _
    repeat (go_big_quiet_step (fail))
    refine wpQuiet_nil ?_
    rfl
  have HKd : Hid (NRow w1.drew (some b0) ns) := hid (HK.out.gr (G1.out.drew))
  refine anyC_alone 3 (Gr.refl w1).drew (by kernel_rfl) (by kernel_rfl) ?_
  conv => arg 4; simp only [picked, List.filterMap_cons, List.filterMap_nil, List.getElem?_toArray, List.getElem?_cons_zero, List.getElem?_cons_succ]
  show wpList _ _ _ [_] _ _
  go_wp2_with fail
  refine (HLY.out _ _ _ HKd.out HC1.out).mono ?_
  rintro e w2 ⟨⟨v, rfl, hw2⟩, g2⟩
  have W2 := hid hw2
  have C2 : Hid (Gr w1 w2) := hid (Gr.trans (Gr.refl w1).drew g2)
  clear hw2 g2
  go_wp2_with fail
  refine ⟨C2.out, ?_⟩
  refine anyC_alone 4 C2.out (by kernel_rfl) (by kernel_rfl) ?_
  conv => arg 4; simp only [picked, List.filterMap_cons, List.filterMap_nil, List.getElem?_toArray, List.getElem?_cons_zero, List.getElem?_cons_succ]
  show wpList _ _ _ [_] _ _
  go_wp2_with fail
  refine (HOF.out v w2 W2.out).mono ?_
  rintro e w3 ⟨m, p, q, rfl, hm3, g3, sm, sp, sq⟩
  have M3 := hid hm3
  have C3 := hid (Gr.trans C2.out g3)
  have SS := hid (⟨sm, sp, sq⟩ : _ ∧ _ ∧ _)
  clear g3 hm3 sm sp sq
  go_wp2_with fail
  refine ⟨C3.out, ?_⟩
  refine anyC_quiet (a1 := ?a2) (by kernel_rfl) 0 [5, 6, 7, 8, 9] _ _ _ (by kernel_rfl) (by kernel_rfl) C3.out ?_ ?_
  rotate_left
  · intro w' g'
    have hne : Nonempty (St (· = w')) := ⟨⟨w', rfl⟩⟩
    clear g'
    conv => arg 5; simp only [picked, List.filterMap_cons, List.filterMap_nil, List.getElem?_toArray, List.getElem?_cons_zero, List.getElem?_cons_succ]
    show wpQuiet _ _ _ _ [_, _, _, _, _] _
    repeat (go_big_quiet_step (fail))
    refine wpQuiet_nil ?_
    rfl
  refine ⟨by kernel_rfl, ?_⟩
  have BX3 := hid (BX.out.gr C3.out)
  have BZ3 := hid (BZ.out.gr C3.out)
  have G3 := hid (Gr.trans G1.out C3.out)
  clear BZ
  go_wp2_with fail
  refine wp_region_anyC (n := 8) (Gr w3) (by kernel_rfl) rfl ?_
  refine anyC_quiet (a1 := ?a3) (by kernel_rfl) 4 [0, 1, 3, 4] _ _ _ (by kernel_rfl) (by kernel_rfl) (Gr.refl w3).drew ?_ ?_
  rotate_left
  · intro w' g'
    have hne : Nonempty (St (· = w')) := ⟨⟨w', rfl⟩⟩
    have X3 := BZ3.out.gr g'
    have y0 : ∀ s : St (· = w'), s.val.cell? ⟨w.heap.size + 1, 0, none⟩ = some (.int .u64 h) := fun s => by rw [s.ok]; exact X3.cell rfl
    clear X3 g'
    conv => arg 5; simp only [picked, List.filterMap_cons, List.filterMap_nil, List.getElem?_toArray, List.getElem?_cons_zero, List.getElem?_cons_succ]
    show wpQuiet _ _ _ _ [_, _, _, _] _
    repeat (go_big_quiet_step (fail))
    refine wpQuiet_nil ?_
    rfl
  refine anyC_alone 2 (Gr.refl w3).drew (by kernel_rfl) (by kernel_rfl) ?_
  conv => arg 4; simp only [picked, List.filterMap_cons, List.filterMap_nil, List.getElem?_toArray, List.getElem?_cons_zero, List.getElem?_cons_succ]
  show wpList _ _ _ [_] _ _
  go_wp2_with fail
  refine (hnew_any h _).mono ?_
  rintro e w6 ⟨rfl, rfl⟩
  go_wp2_with fail
  refine ⟨(Gr.refl w3).drew.alloc _, ?_⟩
  refine anyC_alone 5 ((Gr.refl w3).drew.alloc _) (by kernel_rfl) (by kernel_rfl) ?_
  conv => arg 4; simp only [picked, List.filterMap_cons, List.filterMap_nil, List.getElem?_toArray, List.getElem?_cons_zero, List.getElem?_cons_succ]
  show wpList _ _ _ [_] _ _
  go_wp2_with fail
  refine (hnew_any h _).mono ?_
  rintro e w6 ⟨rfl, rfl⟩
  have G6 : Hid (Gr w3 (((w3.alloc (.cells (helpRow (HS.new h)) 98)).alloc (.cells (helpRow (HS.new h)) 98)).drew)) := hid ((((Gr.refl w3).alloc _).alloc _).drew)
  have A1' : Hid (Blk (((w3.alloc (.cells (helpRow (HS.new h)) 98)).alloc (.cells (helpRow (HS.new h)) 98)).drew) w3.heap.size (helpRow (HS.new h)) 98) := hid (Blk.drew ((Blk.new' rfl).alloc _))
  have A2' : Hid (Blk (((w3.alloc (.cells (helpRow (HS.new h)) 98)).alloc (.cells (helpRow (HS.new h)) 98)).drew) (w3.heap.size + 1) (helpRow (HS.new h)) 98) := hid (Blk.drew (Blk.new' (by simp)))
  go_wp2_with fail
  generalize (((w3.alloc (.cells (helpRow (HS.new h)) 98)).alloc (.cells (helpRow (HS.new h)) 98)).drew) = W6 at *
  refine ⟨G6.out, ?_⟩
  refine anyC_quiet (a1 := ?a4) (by kernel_rfl) 0 [6, 7] _ _ _ (by kernel_rfl) (by kernel_rfl) G6.out ?_ ?_
  rotate_left
  · intro w' g'
    have hne : Nonempty (St (· = w')) := ⟨⟨w', rfl⟩⟩
    clear g'
    conv => arg 5; simp only [picked, List.filterMap_cons, List.filterMap_nil, List.getElem?_toArray, List.getElem?_cons_zero, List.getElem?_cons_succ]
    show wpQuiet _ _ _ _ [_, _] _
    repeat (go_big_quiet_step (fail))
    refine wpQuiet_nil ?_
    rfl
  refine ⟨by kernel_rfl, ?_⟩
  have HIX := hid (index_any h hh)
  have mlt : m < w3.heap.size := M3.out.mem.lt
  have plt : p < w3.heap.size := M3.out.bank.head.lt
  have qlt : q < w3.heap.size := M3.out.bank.row.lt
  have CZ := hid (BZ3.out.gr G6.out)
  have z0 := CZ.out.cell (i := 0) rfl
  have hwk : wrap64 (hI h - 1) = hI h - 1 := w64 (by unfold hI; omega) (by unfold hI; omega)
  go_wp2_with fail
  refine (HIX.out _).mono ?_
  rintro e w7 ⟨rfl, g7⟩
  have CZ7 := hid (CZ.out.gr g7)
  have z1 := CZ7.out.cell (i := 1) rfl
  have GG := hid (Gr.trans G6.out g7)
  have D1 := hid (Blk.gr A1'.out g7)
  have D2 := hid (Blk.gr A2'.out g7)
  have MA7 := hid (M3.out.gr GG.out)
  have G17 := hid (Gr.trans C3.out GG.out)
  have ss := SS.out
  have s2 := C2.out.size
  have s3 := C3.out.size
  have n1 : w3.heap.size ≠ m ∧ w3.heap.size ≠ p ∧ w3.heap.size ≠ q := ⟨by omega, by omega, by omega⟩
  have n2 : w3.heap.size + 1 ≠ m ∧ w3.heap.size + 1 ≠ p ∧ w3.heap.size + 1 ≠ q := ⟨by omega, by omega, by omega⟩
  have t1 : ∀ k, Tri w3.heap.size p q k → w1.heap.size ≤ k ∧ k ≠ w3.heap.size + 1 := by
    intro k hk
    unfold Tri at hk
    rcases hk with hk | hk | hk <;> (refine ⟨?_, ?_⟩ <;> omega)
  have t2 : ∀ k, Tri (w3.heap.size + 1) p q k → w1.heap.size ≤ k ∧ k ≠ w3.heap.size := by
    intro k hk
    unfold Tri at hk
    rcases hk with hk | hk | hk <;> (refine ⟨?_, ?_⟩ <;> omega)
  have N1 := hid n1
  have N2 := hid n2
  have T1 := hid t1
  have T2 := hid t2
  clear n1 n2 t1 t2 ss s2 s3 g7 mlt plt qlt z0 hz1
  generalize w3.heap.size = ah at *
  go_wp2_with fail
  all_goals first | (exfalso; omega) | skip
  clear z1
  go_loopw [73] (fun i wr => ∃ (n : Nat) (Ha Hb : HS) (B : Bk), n ≤ L.length ∧ i = .int .i64 (n : Int) ∧ IsHelp wr ah Ha ∧ IsHelp wr (ah + 1) Hb ∧ IsMem wr m p q c B ∧ Gr w1 wr ∧ Dn c h T Ha Hb B) (fun i _ => L.length - (intOf i).toNat)
  case atStart => exact ⟨0, HS.new h, HS.new h, ⟨l, 0, Acc.zero⟩, Nat.zero_le _, rfl, D1.out, D2.out, MA7.out, G17.out, T0.out⟩
  case round =>
    obtain ⟨n, Ha, Hb, B, hn, rfl, ha, hb, hma, hg, ht⟩ := hrel
    have ha := hid ha
    have hb := hid hb
    have hma := hid hma
    have hg := hid hg
    have ht := hid ht
    by_cases hlt : n < L.length
    · have hlt' : (n : Int) < L.length := by omega
      have hn0 : 0 ≤ (n : Int) := by omega
      have xc := Gr.cell (Gr.trans G1.out hg.out) (HLL.out n hlt)
      generalize L.getD n false = tk at *
      cases tk
      · have hs := hid (hstep_any (ah + 1) m p q c HOK.out Hb B _ hb.out hma.out N2.out.1 N2.out.2.1 N2.out.2.2 ht.out.fb ht.out.row.wd)
        have tn := hid ((ht.out.swap.step CT.out).swap)
        go_wp2_with fail
        refine hs.out.mono ?_
        rintro e w9 ⟨rfl, u1, u2, u3⟩
        have hB := hid u1
        have uM := hid u2
        have hA := hid (Blk.chg ha.out u3 (fun hk => (T2.out _ hk).2 rfl))
        have hG := hid (Gr.step hg.out u3 (fun k hk => (T2.out k hk).1))
        clear u1 u2 u3 xc hs ha hb hma hg ht
        generalize (Hb.step c B).1 = H1 at *
        generalize (Hb.step c B).2 = B1 at *
        have hbk := hid (mbank_any m p q c B1 w9 uM.out)
        have hcl := hid (fun w hb => cells_any p q B1 w hb (by have := tn.out.row.len; have := HOK.out; have := c.cells_ok HOK.out; have := c.bounds HOK.out; omega))
        go_wp2_with fail
        refine hbk.out.mono ?_
        rintro e w10 ⟨rfl, rfl⟩
        go_wp2_with fail
        refine (hcl.out _ uM.out.bank).mono ?_
        rintro e w11 ⟨rfl, hq, g11⟩
        have HQ := hid hq
        have iA := hid (Blk.gr hA.out g11)
        have iB := hid (Blk.gr hB.out g11)
        have iM := hid (uM.out.gr g11)
        have iG := hid (Gr.trans hG.out g11)
        clear hq g11
        have nd := hid (fun wr (g : Gr w wr) => at_T69 (HK.out.gr g : Kd.C k69 wr (some b0) ns.length ns) (k : Int) hk0 hkl')
        go_wp2_with fail
        go_loopw [15] (fun i wr => ∃ j : Nat, j + 1 ≤ T ∧ i = .int .i64 ((j + 1 : Nat) : Int) ∧ Gr w11 wr) (fun i _ => T - (intOf i).toNat)
        case atStart => exact ⟨0, CT.out.t0, rfl, Gr.refl _⟩
        case round =>
          obtain ⟨j, hj, rfl, gr0⟩ := hrel
          have GR := hid gr0
          clear gr0
          obtain ⟨ad, e, c0, c1, c2, c3, c4⟩ := nd.out wr (Gr.trans G1.out (Gr.trans iG.out GR.out))
          cases e
          rw [← HT.out] at c2
          simp only [Int.toNat_natCast] at c2
          clear c0 c1 c3 c4
          by_cases hlt2 : j + 1 < T
          · obtain ⟨x, y, xl, xh, ⟨l0', l1'⟩, FX, K0, K1, e4, hlt3⟩ := tn.out.lev CT.out hlt2 EK.out
            have M0 := hid (marked_any _ FX.out.1)
            have M1 := hid (marked_any _ FX.out.2.1)
            have UP := hid FX.out.2.2.1
            have q1 := hid (fun wr (g : Gr w11 wr) => (Blk.gr HQ.out g).cell FX.out.2.2.2.1)
            have q2 := hid (fun wr (g : Gr w11 wr) => (Blk.gr HQ.out g).cell FX.out.2.2.2.2)
            clear FX
            unfold Cf.val at K0 K1
            have HX := hid (BX.out.gr (Gr.trans iG.out GR.out))
            have x0 := HX.out.cell (i := 0) rfl
            have x1 := HX.out.cell (i := 1) rfl
            have x2 := HX.out.cell (i := 2) rfl
            have x3 := HX.out.cell (i := 3) rfl
            have x4 := HX.out.cell (i := 4) rfl
            have x5 := HX.out.cell (i := 5) rfl
            have x6 := HX.out.cell (i := 6) rfl
            go_wp2_with fail
            refine (K0.out _).mono ?_
            rintro e wa ⟨rfl, ga⟩
            have GA := hid (Gr.trans GR.out ga)
            have HX2 := hid (HX.out.gr ga)
            clear ga x0 x1 x2 x3 x4 x5 x6
            have y0 := q1.out _ GA.out
            have x0 := HX2.out.cell (i := 0) rfl
            have x1 := HX2.out.cell (i := 1) rfl
            have x2 := HX2.out.cell (i := 2) rfl
            have x3 := HX2.out.cell (i := 3) rfl
            have x4 := HX2.out.cell (i := 4) rfl
            have x5 := HX2.out.cell (i := 5) rfl
            have x6 := HX2.out.cell (i := 6) rfl
            go_wp2_with fail
            refine (K1.out _).mono ?_
            rintro e wb ⟨rfl, gb⟩
            have GB := hid (Gr.trans GA.out gb)
            clear gb x0 x1 x2 x3 x4 x5 x6 y0
            have y1 := q2.out _ GB.out
            cases em : hM xl
            · rw [em] at M0
              go_wp2_with fail
              refine (M0.out _).mono ?_
              rintro e wc ⟨rfl, rfl⟩
              go_wp2_with fail
              go_roundw
              case rel => exact ⟨j + 1, hlt2, dn_numr e4.out, GB.out⟩
              case measure => exact dn_meas hlt2 e4.out
            · have eh := UP.out em
              rw [em] at M0
              rw [eh] at M1
              go_wp2_with fail
              refine (M0.out _).mono ?_
              rintro e wc ⟨rfl, rfl⟩
              go_wp2_with fail
              refine (M1.out _).mono ?_
              rintro e wd ⟨rfl, rfl⟩
              go_wp2_with fail
              go_roundw
              case rel => exact ⟨j + 1, hlt2, dn_numr e4.out, GB.out⟩
              case measure => exact dn_meas hlt2 e4.out
          · have hge2 : ¬ ((j + 1 : Nat) : Int) < (T : Int) := by omega
            go_wp2_with fail
            refine ⟨⟨_, _, _, _, _, _, _, ?rel, rfl, rfl, rfl, rfl, rfl, rfl, rfl⟩, ?measure⟩
            case rel => exact ⟨n + 1, by omega, by go_num, Ha, (Blk.gr iA.out GR.out), H1, (Blk.gr iB.out GR.out), B1, iM.out.gr GR.out, Gr.trans iG.out GR.out, tn.out⟩
            case measure => simp [intOf]; omega
      · have hs := hid (hstep_any ah m p q c HOK.out Ha B _ ha.out hma.out N1.out.1 N1.out.2.1 N1.out.2.2 ht.out.fa ht.out.row.wd)
        have tn := hid (ht.out.step CT.out)
        go_wp2_with fail
        refine hs.out.mono ?_
        rintro e w9 ⟨rfl, u1, u2, u3⟩
        have hA := hid u1
        have uM := hid u2
        have hB := hid (Blk.chg hb.out u3 (fun hk => (T1.out _ hk).2 rfl))
        have hG := hid (Gr.step hg.out u3 (fun k hk => (T1.out k hk).1))
        clear u1 u2 u3 xc hs ha hb hma hg ht
        generalize (Ha.step c B).1 = H1 at *
        generalize (Ha.step c B).2 = B1 at *
        have hbk := hid (mbank_any m p q c B1 w9 uM.out)
        have hcl := hid (fun w hb => cells_any p q B1 w hb (by have := tn.out.row.len; have := HOK.out; have := c.cells_ok HOK.out; have := c.bounds HOK.out; omega))
        go_wp2_with fail
        refine hbk.out.mono ?_
        rintro e w10 ⟨rfl, rfl⟩
        go_wp2_with fail
        refine (hcl.out _ uM.out.bank).mono ?_
        rintro e w11 ⟨rfl, hq, g11⟩
        have HQ := hid hq
        have iA := hid (Blk.gr hA.out g11)
        have iB := hid (Blk.gr hB.out g11)
        have iM := hid (uM.out.gr g11)
        have iG := hid (Gr.trans hG.out g11)
        clear hq g11
        have nd := hid (fun wr (g : Gr w wr) => at_T69 (HK.out.gr g : Kd.C k69 wr (some b0) ns.length ns) (k : Int) hk0 hkl')
        go_wp2_with fail
        go_loopw [15] (fun i wr => ∃ j : Nat, j + 1 ≤ T ∧ i = .int .i64 ((j + 1 : Nat) : Int) ∧ Gr w11 wr) (fun i _ => T - (intOf i).toNat)
        case atStart => exact ⟨0, CT.out.t0, rfl, Gr.refl _⟩
        case round =>
          obtain ⟨j, hj, rfl, gr0⟩ := hrel
          have GR := hid gr0
          clear gr0
          obtain ⟨ad, e, c0, c1, c2, c3, c4⟩ := nd.out wr (Gr.trans G1.out (Gr.trans iG.out GR.out))
          cases e
          rw [← HT.out] at c2
          simp only [Int.toNat_natCast] at c2
          clear c0 c1 c3 c4
          by_cases hlt2 : j + 1 < T
          · obtain ⟨x, y, xl, xh, ⟨l0', l1'⟩, FX, K0, K1, e4, hlt3⟩ := tn.out.lev CT.out hlt2 EK.out
            have M0 := hid (marked_any _ FX.out.1)
            have M1 := hid (marked_any _ FX.out.2.1)
            have UP := hid FX.out.2.2.1
            have q1 := hid (fun wr (g : Gr w11 wr) => (Blk.gr HQ.out g).cell FX.out.2.2.2.1)
            have q2 := hid (fun wr (g : Gr w11 wr) => (Blk.gr HQ.out g).cell FX.out.2.2.2.2)
            clear FX
            unfold Cf.val at K0 K1
            have HX := hid (BX.out.gr (Gr.trans iG.out GR.out))
            have x0 := HX.out.cell (i := 0) rfl
            have x1 := HX.out.cell (i := 1) rfl
            have x2 := HX.out.cell (i := 2) rfl
            have x3 := HX.out.cell (i := 3) rfl
            have x4 := HX.out.cell (i := 4) rfl
            have x5 := HX.out.cell (i := 5) rfl
            have x6 := HX.out.cell (i := 6) rfl
            go_wp2_with fail
            refine (K0.out _).mono ?_
            rintro e wa ⟨rfl, ga⟩
            have GA := hid (Gr.trans GR.out ga)
            have HX2 := hid (HX.out.gr ga)
            clear ga x0 x1 x2 x3 x4 x5 x6
            have y0 := q1.out _ GA.out
            have x0 := HX2.out.cell (i := 0) rfl
            have x1 := HX2.out.cell (i := 1) rfl
            have x2 := HX2.out.cell (i := 2) rfl
            have x3 := HX2.out.cell (i := 3) rfl
            have x4 := HX2.out.cell (i := 4) rfl
            have x5 := HX2.out.cell (i := 5) rfl
            have x6 := HX2.out.cell (i := 6) rfl
            go_wp2_with fail
            refine (K1.out _).mono ?_
            rintro e wb ⟨rfl, gb⟩
            have GB := hid (Gr.trans GA.out gb)
            clear gb x0 x1 x2 x3 x4 x5 x6 y0
            have y1 := q2.out _ GB.out
            cases em : hM xl
            · rw [em] at M0
              go_wp2_with fail
              refine (M0.out _).mono ?_
              rintro e wc ⟨rfl, rfl⟩
              go_wp2_with fail
              go_roundw
              case rel => exact ⟨j + 1, hlt2, dn_numr e4.out, GB.out⟩
              case measure => exact dn_meas hlt2 e4.out
            · have eh := UP.out em
              rw [em] at M0
              rw [eh] at M1
              go_wp2_with fail
              refine (M0.out _).mono ?_
              rintro e wc ⟨rfl, rfl⟩
              go_wp2_with fail
              refine (M1.out _).mono ?_
              rintro e wd ⟨rfl, rfl⟩
              go_wp2_with fail
              go_roundw
              case rel => exact ⟨j + 1, hlt2, dn_numr e4.out, GB.out⟩
              case measure => exact dn_meas hlt2 e4.out
          · have hge2 : ¬ ((j + 1 : Nat) : Int) < (T : Int) := by omega
            go_wp2_with fail
            refine ⟨⟨_, _, _, _, _, _, _, ?rel, rfl, rfl, rfl, rfl, rfl, rfl, rfl⟩, ?measure⟩
            case rel => exact ⟨n + 1, by omega, by go_num, H1, (Blk.gr iA.out GR.out), Hb, (Blk.gr iB.out GR.out), B1, iM.out.gr GR.out, Gr.trans iG.out GR.out, tn.out⟩
            case measure => simp [intOf]; omega
    · have hge : ¬ (n : Int) < L.length := by omega
      go_wp2_with fail
      refine (halive _).mono ?_
      rintro e u8 ⟨rfl, g8⟩
      go_wp2_with fail
      go_ret
      exact ⟨rfl, Gr.trans G1.out (Gr.trans hg.out g8)⟩

set_option maxRecDepth 100000 in
set_option maxHeartbeats 4000000 in
theorem down_main_none (c : Cf) (ns : List S69) (b0 : Addr) (cap1 : Nat) (h : Int) (hh : U64 h) (L : List Bool) (capL : Nat) (w : World) (hk : NRow w (some b0) ns) (hc1 : ns.length ≤ cap1) (hrc : ∀ (A : Option Addr) (cap : Nat) (w : World), NRow w A ns → ns.length ≤ cap → Calls Try.prog 36 #[c.val, .slice A ns.length cap] w fun e w' => e = .returned (.bool true) ∧ Gr w w') (hlong : ¬ 100 < L.length) (N : NodesOk c ns) (F : ∀ n ∈ ns, U64 n.f0 ∧ U64 n.f1) (k : Nat) (hkl : k < ns.length) (hi : hI h = (k : Int) + 1) (hL : L.length = 0) :
    Calls Try.prog 10 #[.agg #[.int .i64 c.th, .int .i64 c.sl, .int .i64 c.cp, .int .i64 c.he, .int .i64 c.ke, .int .i64 c.ev, .int .i64 c.la], .slice (some b0) ns.length cap1, .agg #[.int .u64 h, .slice none L.length capL]] w fun e w' => e = .returned (.bool true) ∧ Gr w w' := by
  obtain ⟨l, P, hly0⟩ := lay_words c ns N F
  have hof0 := fun v w hv => mof_any c N.ok v l w hv P.len
  unfold Cf.val at hly0 hof0
  have HLY := hid hly0
  have HOF := hid hof0
  have hd : decide (100 < (L.length : Int)) = false := by simp; omega
  clear hly0 hof0
  obtain ⟨T, hT, C, R, U⟩ := part_ctx N P hh hkl hi
  have hik : hI h - 1 = (k : Int) := by omega
  have hk0 : 0 ≤ (k : Int) := by omega
  have hcp : c.cp ≤ 64 := N.ok.2.2.2.2.2.1
  have hwk2 : wrap64 (k : Int) = (k : Int) := by have := N.room; exact w64 (by omega) (by omega)
  have hkl' : (k : Int) < ns.length := by omega
  have EK := hid (show wrap64 ((k : Int) + 1) = hI h by have := N.room; rw [w64 (by omega) (by omega)]; omega)
  have CT := hid C
  have HT := hid hT
  have HOK := hid C.ok
  have T0 := hid (Dn.new R hh U)
  have HLL := hid hL
  clear hT C R U hL hi hcp
  have hr := hrc
  unfold Cf.val at hr
  have HR := hid hr
  have HK := hid hk
  have HC1 := hid hc1
  clear hr hk hrc hc1
  go_enter Try.func10, Try.ntmps10
  go_wp2_with fail
  have G0 := hid (((Gr.refl w).alloc (.cells #[.int .i64 c.th, .int .i64 c.sl, .int .i64 c.cp, .int .i64 c.he, .int .i64 c.ke, .int .i64 c.ev, .int .i64 c.la] 23)).alloc (.cells #[.int .u64 h, .slice none L.length capL] 43))
  have AX := hid ((Blk.new w #[.int .i64 c.th, .int .i64 c.sl, .int .i64 c.cp, .int .i64 c.he, .int .i64 c.ke, .int .i64 c.ev, .int .i64 c.la] 23).alloc (.cells #[.int .u64 h, .slice none L.length capL] 43))
  have AZ : Hid (Blk ((w.alloc (.cells #[.int .i64 c.th, .int .i64 c.sl, .int .i64 c.cp, .int .i64 c.he, .int .i64 c.ke, .int .i64 c.ev, .int .i64 c.la] 23)).alloc (.cells #[.int .u64 h, .slice none L.length capL] 43)) (w.heap.size + 1) #[.int .u64 h, .slice none L.length capL] 43) := hid (Blk.new' (by simp))
  generalize ((w.alloc (.cells #[.int .i64 c.th, .int .i64 c.sl, .int .i64 c.cp, .int .i64 c.he, .int .i64 c.ke, .int .i64 c.ev, .int .i64 c.la] 23)).alloc (.cells #[.int .u64 h, .slice none L.length capL] 43)) = w0 at *
  refine (HR.out _ _ _ (HK.out.gr G0.out) HC1.out).mono ?_
  rintro e w1 ⟨rfl, g1⟩
  have BX := hid (Blk.gr AX.out g1)
  have BZ := hid (Blk.gr AZ.out g1)
  have G1 := hid (Gr.trans G0.out g1)
  clear g1 AX AZ G0
  have z1 := BZ.out.cell (i := 1) rfl
  go_wp2_with fail
  clear z1
  have hz1 := HK.out
  refine wp_region_anyC (n := 10) (Gr w1) (by kernel_rfl) rfl ?_
  refine anyC_quiet (a1 := ?a1) (by kernel_rfl) 7 [0, 1, 2] _ _ _ (by kernel_rfl) (by kernel_rfl) (Gr.refl w1).drew ?_ ?_
  rotate_left
  · intro w' g'
    have hne : Nonempty (St (· = w')) := ⟨⟨w', rfl⟩⟩
    have X3 := BX.out.gr g'
    have y0 : ∀ s : St (· = w'), s.val.cell? ⟨w.heap.size, 0, none⟩ = some (.int .i64 c.th) := fun s => by rw [s.ok]; exact X3.cell rfl
    have y1 : ∀ s : St (· = w'), s.val.cell? ⟨w.heap.size, 1, none⟩ = some (.int .i64 c.sl) := fun s => by rw [s.ok]; exact X3.cell rfl
    have y2 : ∀ s : St (· = w'), s.val.cell? ⟨w.heap.size, 2, none⟩ = some (.int .i64 c.cp) := fun s => by rw [s.ok]; exact X3.cell rfl
    have y3 : ∀ s : St (· = w'), s.val.cell? ⟨w.heap.size, 3, none⟩ = some (.int .i64 c.he) := fun s => by rw [s.ok]; exact X3.cell rfl
    have y4 : ∀ s : St (· = w'), s.val.cell? ⟨w.heap.size, 4, none⟩ = some (.int .i64 c.ke) := fun s => by rw [s.ok]; exact X3.cell rfl
    have y5 : ∀ s : St (· = w'), s.val.cell? ⟨w.heap.size, 5, none⟩ = some (.int .i64 c.ev) := fun s => by rw [s.ok]; exact X3.cell rfl
    have y6 : ∀ s : St (· = w'), s.val.cell? ⟨w.heap.size, 6, none⟩ = some (.int .i64 c.la) := fun s => by rw [s.ok]; exact X3.cell rfl
    clear X3 g'
    conv => arg 5; simp only [picked, List.filterMap_cons, List.filterMap_nil, List.getElem?_toArray, List.getElem?_cons_zero, List.getElem?_cons_succ]
    show wpQuiet _ _ _ _ [_, _, _] _
    repeat (go_big_quiet_step (fail))
    refine wpQuiet_nil ?_
    rfl
  have HKd : Hid (NRow w1.drew (some b0) ns) := hid (HK.out.gr (G1.out.drew))
  refine anyC_alone 3 (Gr.refl w1).drew (by kernel_rfl) (by kernel_rfl) ?_
  conv => arg 4; simp only [picked, List.filterMap_cons, List.filterMap_nil, List.getElem?_toArray, List.getElem?_cons_zero, List.getElem?_cons_succ]
  show wpList _ _ _ [_] _ _
  go_wp2_with fail
  refine (HLY.out _ _ _ HKd.out HC1.out).mono ?_
  rintro e w2 ⟨⟨v, rfl, hw2⟩, g2⟩
  have W2 := hid hw2
  have C2 : Hid (Gr w1 w2) := hid (Gr.trans (Gr.refl w1).drew g2)
  clear hw2 g2
  go_wp2_with fail
  refine ⟨C2.out, ?_⟩
  refine anyC_alone 4 C2.out (by kernel_rfl) (by kernel_rfl) ?_
  conv => arg 4; simp only [picked, List.filterMap_cons, List.filterMap_nil, List.getElem?_toArray, List.getElem?_cons_zero, List.getElem?_cons_succ]
  show wpList _ _ _ [_] _ _
  go_wp2_with fail
  refine (HOF.out v w2 W2.out).mono ?_
  rintro e w3 ⟨m, p, q, rfl, hm3, g3, sm, sp, sq⟩
  have M3 := hid hm3
  have C3 := hid (Gr.trans C2.out g3)
  have SS := hid (⟨sm, sp, sq⟩ : _ ∧ _ ∧ _)
  clear g3 hm3 sm sp sq
  go_wp2_with fail
  refine ⟨C3.out, ?_⟩
  refine anyC_quiet (a1 := ?a2) (by kernel_rfl) 0 [5, 6, 7, 8, 9] _ _ _ (by kernel_rfl) (by kernel_rfl) C3.out ?_ ?_
  rotate_left
  · intro w' g'
    have hne : Nonempty (St (· = w')) := ⟨⟨w', rfl⟩⟩
    clear g'
    conv => arg 5; simp only [picked, List.filterMap_cons, List.filterMap_nil, List.getElem?_toArray, List.getElem?_cons_zero, List.getElem?_cons_succ]
    show wpQuiet _ _ _ _ [_, _, _, _, _] _
    repeat (go_big_quiet_step (fail))
    refine wpQuiet_nil ?_
    rfl
  refine ⟨by kernel_rfl, ?_⟩
  have BX3 := hid (BX.out.gr C3.out)
  have BZ3 := hid (BZ.out.gr C3.out)
  have G3 := hid (Gr.trans G1.out C3.out)
  clear BZ
  go_wp2_with fail
  refine wp_region_anyC (n := 8) (Gr w3) (by kernel_rfl) rfl ?_
  refine anyC_quiet (a1 := ?a3) (by kernel_rfl) 4 [0, 1, 3, 4] _ _ _ (by kernel_rfl) (by kernel_rfl) (Gr.refl w3).drew ?_ ?_
  rotate_left
  · intro w' g'
    have hne : Nonempty (St (· = w')) := ⟨⟨w', rfl⟩⟩
    have X3 := BZ3.out.gr g'
    have y0 : ∀ s : St (· = w'), s.val.cell? ⟨w.heap.size + 1, 0, none⟩ = some (.int .u64 h) := fun s => by rw [s.ok]; exact X3.cell rfl
    clear X3 g'
    conv => arg 5; simp only [picked, List.filterMap_cons, List.filterMap_nil, List.getElem?_toArray, List.getElem?_cons_zero, List.getElem?_cons_succ]
    show wpQuiet _ _ _ _ [_, _, _, _] _
    repeat (go_big_quiet_step (fail))
    refine wpQuiet_nil ?_
    rfl
  refine anyC_alone 2 (Gr.refl w3).drew (by kernel_rfl) (by kernel_rfl) ?_
  conv => arg 4; simp only [picked, List.filterMap_cons, List.filterMap_nil, List.getElem?_toArray, List.getElem?_cons_zero, List.getElem?_cons_succ]
  show wpList _ _ _ [_] _ _
  go_wp2_with fail
  refine (hnew_any h _).mono ?_
  rintro e w6 ⟨rfl, rfl⟩
  go_wp2_with fail
  refine ⟨(Gr.refl w3).drew.alloc _, ?_⟩
  refine anyC_alone 5 ((Gr.refl w3).drew.alloc _) (by kernel_rfl) (by kernel_rfl) ?_
  conv => arg 4; simp only [picked, List.filterMap_cons, List.filterMap_nil, List.getElem?_toArray, List.getElem?_cons_zero, List.getElem?_cons_succ]
  show wpList _ _ _ [_] _ _
  go_wp2_with fail
  refine (hnew_any h _).mono ?_
  rintro e w6 ⟨rfl, rfl⟩
  have G6 : Hid (Gr w3 (((w3.alloc (.cells (helpRow (HS.new h)) 98)).alloc (.cells (helpRow (HS.new h)) 98)).drew)) := hid ((((Gr.refl w3).alloc _).alloc _).drew)
  have A1' : Hid (Blk (((w3.alloc (.cells (helpRow (HS.new h)) 98)).alloc (.cells (helpRow (HS.new h)) 98)).drew) w3.heap.size (helpRow (HS.new h)) 98) := hid (Blk.drew ((Blk.new' rfl).alloc _))
  have A2' : Hid (Blk (((w3.alloc (.cells (helpRow (HS.new h)) 98)).alloc (.cells (helpRow (HS.new h)) 98)).drew) (w3.heap.size + 1) (helpRow (HS.new h)) 98) := hid (Blk.drew (Blk.new' (by simp)))
  go_wp2_with fail
  generalize (((w3.alloc (.cells (helpRow (HS.new h)) 98)).alloc (.cells (helpRow (HS.new h)) 98)).drew) = W6 at *
  refine ⟨G6.out, ?_⟩
  refine anyC_quiet (a1 := ?a4) (by kernel_rfl) 0 [6, 7] _ _ _ (by kernel_rfl) (by kernel_rfl) G6.out ?_ ?_
  rotate_left
  · intro w' g'
    have hne : Nonempty (St (· = w')) := ⟨⟨w', rfl⟩⟩
    clear g'
    conv => arg 5; simp only [picked, List.filterMap_cons, List.filterMap_nil, List.getElem?_toArray, List.getElem?_cons_zero, List.getElem?_cons_succ]
    show wpQuiet _ _ _ _ [_, _] _
    repeat (go_big_quiet_step (fail))
    refine wpQuiet_nil ?_
    rfl
  refine ⟨by kernel_rfl, ?_⟩
  have HIX := hid (index_any h hh)
  have mlt : m < w3.heap.size := M3.out.mem.lt
  have plt : p < w3.heap.size := M3.out.bank.head.lt
  have qlt : q < w3.heap.size := M3.out.bank.row.lt
  have CZ := hid (BZ3.out.gr G6.out)
  have z0 := CZ.out.cell (i := 0) rfl
  have hwk : wrap64 (hI h - 1) = hI h - 1 := w64 (by unfold hI; omega) (by unfold hI; omega)
  go_wp2_with fail
  refine (HIX.out _).mono ?_
  rintro e w7 ⟨rfl, g7⟩
  have CZ7 := hid (CZ.out.gr g7)
  have z1 := CZ7.out.cell (i := 1) rfl
  have GG := hid (Gr.trans G6.out g7)
  have D1 := hid (Blk.gr A1'.out g7)
  have D2 := hid (Blk.gr A2'.out g7)
  have MA7 := hid (M3.out.gr GG.out)
  have G17 := hid (Gr.trans C3.out GG.out)
  have ss := SS.out
  have s2 := C2.out.size
  have s3 := C3.out.size
  have n1 : w3.heap.size ≠ m ∧ w3.heap.size ≠ p ∧ w3.heap.size ≠ q := ⟨by omega, by omega, by omega⟩
  have n2 : w3.heap.size + 1 ≠ m ∧ w3.heap.size + 1 ≠ p ∧ w3.heap.size + 1 ≠ q := ⟨by omega, by omega, by omega⟩
  have t1 : ∀ k, Tri w3.heap.size p q k → w1.heap.size ≤ k ∧ k ≠ w3.heap.size + 1 := by
    intro k hk
    unfold Tri at hk
    rcases hk with hk | hk | hk <;> (refine ⟨?_, ?_⟩ <;> omega)
  have t2 : ∀ k, Tri (w3.heap.size + 1) p q k → w1.heap.size ≤ k ∧ k ≠ w3.heap.size := by
    intro k hk
    unfold Tri at hk
    rcases hk with hk | hk | hk <;> (refine ⟨?_, ?_⟩ <;> omega)
  have N1 := hid n1
  have N2 := hid n2
  have T1 := hid t1
  have T2 := hid t2
  clear n1 n2 t1 t2 ss s2 s3 g7 mlt plt qlt z0 hz1
  generalize w3.heap.size = ah at *
  go_wp2_with fail
  all_goals first | (exfalso; omega) | skip
  clear z1
  go_loopw [73] (fun i wr => ∃ (n : Nat) (Ha Hb : HS) (B : Bk), n ≤ L.length ∧ i = .int .i64 (n : Int) ∧ IsHelp wr ah Ha ∧ IsHelp wr (ah + 1) Hb ∧ IsMem wr m p q c B ∧ Gr w1 wr ∧ Dn c h T Ha Hb B) (fun i _ => L.length - (intOf i).toNat)
  case atStart => exact ⟨0, HS.new h, HS.new h, ⟨l, 0, Acc.zero⟩, Nat.zero_le _, rfl, D1.out, D2.out, MA7.out, G17.out, T0.out⟩
  case round =>
    obtain ⟨n, Ha, Hb, B, hn, rfl, ha, hb, hma, hg, ht⟩ := hrel
    have ha := hid ha
    have hb := hid hb
    have hma := hid hma
    have hg := hid hg
    have ht := hid ht
    by_cases hlt : n < L.length
    · have hlt' : (n : Int) < L.length := by omega
      have hn0 : 0 ≤ (n : Int) := by omega
      have := HLL.out
      omega
    · have hge : ¬ (n : Int) < L.length := by omega
      go_wp2_with fail
      refine (halive _).mono ?_
      rintro e u8 ⟨rfl, g8⟩
      go_wp2_with fail
      go_ret
      exact ⟨rfl, Gr.trans G1.out (Gr.trans hg.out g8)⟩

theorem helpDown_at {w : World} (a b c d e f g : Int) (v : Value) (ns : List S69) (hn : Nodes w v ns) (z : Value) (T : Int × List Bool) (ht : Turns w z T) :
    Calls Try.prog 10 #[.agg #[.int .i64 a, .int .i64 b, .int .i64 c, .int .i64 d, .int .i64 e, .int .i64 f, .int .i64 g], v, z] w fun e w' => e = .returned (.bool true) ∧ Gr w w' := by
  obtain ⟨s, rfl, hh, A, capL, rfl, hcap, hL⟩ := ht
  obtain ⟨A1, cap1, rfl, hc1, hlen, hk, F⟩ := hn
  obtain ⟨r, hb, hrc⟩ := right_call (Cf.mk a b c d e f g) ns hlen
  cases r
  · exact down_wrong (Cf.mk a b c d e f g) ns A1 cap1 T.1 hh A T.2 capL w hk hc1 hrc
  · have N := hb rfl
    by_cases hlong : 100 < T.2.length
    · exact down_long (Cf.mk a b c d e f g) ns A1 cap1 T.1 hh A T.2 capL w hk hc1 hrc hlong
    · by_cases hout : hI T.1 - 1 < 0 ∨ ns.length ≤ hI T.1 - 1
      · exact down_out (Cf.mk a b c d e f g) ns A1 cap1 T.1 hh A T.2 capL w hk hc1 hrc hlong N F hout
      · obtain ⟨k, ek⟩ := Int.eq_ofNat_of_zero_le (by omega : 0 ≤ hI T.1 - 1)
        obtain ⟨b0, rfl, _⟩ := hk.2.2 (by omega)
        cases A with
        | none => exact down_main_none (Cf.mk a b c d e f g) ns b0 cap1 T.1 hh T.2 capL w hk hc1 hrc hlong N F k (by omega) (by omega) (by
            by_cases h0 : T.2.length = 0
            · exact h0
            · obtain ⟨_, e, _⟩ := hL 0 (by omega); cases e)
        | some a0 => exact down_main_some (Cf.mk a b c d e f g) ns b0 cap1 T.1 hh a0 T.2 capL w hk hc1 hrc hlong N F k (by omega) (by omega) (fun i hi => by obtain ⟨a', e, k⟩ := hL i hi; cases e; exact k)
end Go.Proofs.YthbkncklliiooaaH
