/-
  HelpLost: the walk.
-/
import Derived.Test.YthbkncklliiooaaHv
import Derived.Test.YthbkncklliiooaaNl
import Derived.Test.YthbkncklliiooaaOpen
import Derived.ChangeSlices
namespace Go.Proofs.YthbkncklliiooaaH
set_option linter.unusedVariables false
set_option linter.unusedSimpArgs false
open Go.RowKit Go.Proofs.Ythbkncklliiooaa.Q Go.Proofs.YthbkncklliiooaaW.PrintWords

/-- A help of a node, and the words, into which somebody else writes between its steps. -/
structure Ls (c : Cf) (h : Int) (T : Nat) (H : HS) (B : Bk) (n : Nat) : Prop where
  row : Row c h T B.cells
  inv : Hinv c h T H B.cells
  fit : H.Fit
  c0 : 0 ≤ B.count
  c1 : B.count ≤ n
theorem Ls.new {c : Cf} {h : Int} {T : Nat} {l : List Int} (R : Row c h T l) (hh : U64 h) : Ls c h T (HS.new h) ⟨l, 0, Acc.zero⟩ 0 :=
  ⟨R, ⟨rfl, (fun e => by rcases e with e | e <;> cases e), (fun e => by cases e)⟩, new_fit hh, Int.le_refl _, Int.le_refl _⟩
theorem cnt_up {a b : Int} {n : Nat} (e : b = wrap64 (a + 1)) (h0 : 0 ≤ a) (h1 : a ≤ n) (hn : n ≤ 100) : 0 ≤ b ∧ b ≤ ((n + 1 : Nat) : Int) := by
  rw [e]; unfold wrap64; omega
theorem Ls.mono {c : Cf} {h : Int} {T : Nat} {H : HS} {B : Bk} {n m : Nat} (t : Ls c h T H B n) (hm : n ≤ m) : Ls c h T H B m := ⟨t.row, t.inv, t.fit, t.c0, by have := t.c1; omega⟩
section
variable {c : Cf} {h : Int} {T : Nat} (C : Ctx c h T) {H : HS} {B : Bk} {n : Nat}
include C
theorem Ls.step (t : Ls c h T H B n) (hn : n ≤ 100) : Ls c h T (H.step c B).1 (H.step c B).2 (n + 1) := by
  obtain ⟨m, I⟩ := step_mk C t.row t.inv
  have hc : 0 ≤ (H.step c B).2.count ∧ (H.step c B).2.count ≤ ((n + 1 : Nat) : Int) := by
    by_cases hd : H.st = .done
    · rw [show H.step c B = (H, B) by simp only [HS.step, hd]]
      have := t.c0; have := t.c1
      exact ⟨by assumption, by show B.count ≤ _; omega⟩
    · exact cnt_up (step_count hd) t.c0 t.c1 hn
  exact ⟨m.row C t.row, I, step_fit c C.ok t.fit t.row.wd, hc.1, hc.2⟩
omit C in
theorem Ls.load (t : Ls c h T H B n) (hn : n ≤ 100) (x y : Int) : Ls c h T H (B.load x y) (n + 1) := by
  obtain ⟨h0, h1⟩ := cnt_up (load_count B x y) t.c0 t.c1 hn
  exact ⟨by rw [load_cells]; exact t.row, by rw [load_cells]; exact t.inv, t.fit, h0, h1⟩
/-- What a load of a level tells. -/
theorem lev_load {j : Nat} (R : Row c h T B.cells) (hj : j < T) (y : Int) : (B.load (c.cel (hI h) (6 + j)) y).last.old = B.cells.getD (lc c h j) 0 := by
  obtain ⟨e1, e2⟩ := C.lv hj
  have := R.len
  rw [load_old B y (by omega) (by omega), e1]; rfl
theorem Ls.store (t : Ls c h T H B n) (hn : n ≤ 100) (hd : H.st ≠ .done) (y : Int) {v : Int} (hv : U64 v) : Ls c h T H (B.store (c.cel (hI h) 6) y v) (n + 1) := by
  have e0 := C.lv (n := 0) C.t0
  simp only [Int.natCast_zero, Int.add_zero] at e0
  obtain ⟨e1, e2⟩ := e0
  have hl := t.row.len
  have hs : B.store (c.cel (hI h) 6) y v = B.done 2 (lc c h 0) y (B.get (c.cel (hI h) 6)) v true := by
    unfold Bk.store
    rw [if_pos (has_of (by omega) (by omega)), e1]; rfl
  rw [hs]
  obtain ⟨c0, c1⟩ := cnt_up (a := B.count) rfl t.c0 t.c1 hn
  refine ⟨⟨?_, ?_, ?_⟩, ⟨t.inv.hh, fun e => ⟨(t.inv.lv e).1, (t.inv.lv e).2.1, fun j h1 h2 => ?_⟩, fun e => absurd e hd⟩, t.fit, c0, c1⟩
  · show ((B.cells.set (lc c h 0) v).length : Int) = _
    rw [List.length_set]; exact hl
  · intro x hx
    rcases List.mem_or_eq_of_mem_set hx with hx | rfl
    · exact t.row.wd x hx
    · exact hv
  · show topLv c ((B.cells.set (lc c h 0) v).getD (tc c h) 0) + 1 = T
    rw [getD_set, if_neg (fun k => C.ne C.t0 k.1)]
    exact t.row.top
  · have h3 := (t.inv.lv e).2.2 j h1 h2
    have h4 := (t.inv.lv e).1
    show hM ((B.cells.set (lc c h 0) v).getD (lc c h j) 0) = true
    rw [getD_set, if_neg (fun k => by have := C.inj C.t0 h2 k.1; omega)]
    exact h3
/-- Behind its end. -/
structure Fin (c : Cf) (h : Int) (T : Nat) (B : Bk) : Prop where
  row : Row c h T B.cells
  all : ∀ j : Nat, j < T → hM (B.cells.getD (lc c h j) 0) = true
theorem Ls.ends (t : Ls c h T H B n) (hn : n ≤ 100) : (endsf c 100 H B).2.1.st = .done ∧ Fin c h T (endsf c 100 H B).2.2 := by
  have hd := ends_any_done C (k := 100) t.row t.inv (by omega) t.c0 (by have := t.c1; omega)
  have r := Runs.ends C t.row (⟨t.row, t.inv, rfl, fun k => .inl rfl⟩ : Runs c h T B.cells H B) 100
  exact ⟨hd, r.row, r.inv.dn hd⟩
omit C in
theorem Fin.load (t : Fin c h T B) (x y : Int) : Fin c h T (B.load x y) := ⟨by rw [load_cells]; exact t.row, by rw [load_cells]; exact t.all⟩
end
theorem lev_num {j T : Nat} (h : j < T) (k : T ≤ 6) : Value.int .i64 (wrap64 ((j : Int) + 1)) = Value.int .i64 ((j + 1 : Nat) : Int) := by
  rw [w64 (by omega) (by omega)]; simp
theorem lev_meas {T j : Nat} (h : j < T) (k : T ≤ 6) : T - (intOf (.int .i64 (wrap64 ((j : Int) + 1)))).toNat < T - (intOf (.int .i64 (j : Int))).toNat := by
  rw [w64 (by omega) (by omega)]; simp [intOf]; omega
theorem ls_meas {M n : Nat} (h : n < M) : M - (intOf (.int .i64 ((n : Int) + 1))).toNat < M - (intOf (.int .i64 (n : Int))).toNat := by
  simp [intOf]; omega

set_option maxRecDepth 100000 in
set_option maxHeartbeats 4000000 in
theorem lost_wrong (c : Cf) (ns : List S69) (A1 : Option Addr) (cap1 : Nat) (K : Int) (A : Option Addr) (L : List Int) (capL : Nat) (w : World) (hk : NRow w A1 ns) (hc1 : ns.length ≤ cap1) (hrc : ∀ (A : Option Addr) (cap : Nat) (w : World), NRow w A ns → ns.length ≤ cap → Calls Try.prog 36 #[c.val, .slice A ns.length cap] w fun e w' => e = .returned (.bool false) ∧ Gr w w') :
    Calls Try.prog 12 #[.agg #[.int .i64 c.th, .int .i64 c.sl, .int .i64 c.cp, .int .i64 c.he, .int .i64 c.ke, .int .i64 c.ev, .int .i64 c.la], .slice A1 ns.length cap1, .agg #[.int .i64 K, .slice A L.length capL]] w fun e w' => e = .returned (.bool true) ∧ Gr w w' := by
  have hr := hrc
  unfold Cf.val at hr
  have HR := hid hr
  have HK := hid hk
  have HC1 := hid hc1
  clear hr hk hrc hc1
  go_enter Try.func12, Try.ntmps12
  go_wp2_with fail
  have G0 := hid (((Gr.refl w).alloc (.cells #[.int .i64 c.th, .int .i64 c.sl, .int .i64 c.cp, .int .i64 c.he, .int .i64 c.ke, .int .i64 c.ev, .int .i64 c.la] 23)).alloc (.cells #[.int .i64 K, .slice A L.length capL] 74))
  have AX := hid ((Blk.new w #[.int .i64 c.th, .int .i64 c.sl, .int .i64 c.cp, .int .i64 c.he, .int .i64 c.ke, .int .i64 c.ev, .int .i64 c.la] 23).alloc (.cells #[.int .i64 K, .slice A L.length capL] 74))
  have AZ : Hid (Blk ((w.alloc (.cells #[.int .i64 c.th, .int .i64 c.sl, .int .i64 c.cp, .int .i64 c.he, .int .i64 c.ke, .int .i64 c.ev, .int .i64 c.la] 23)).alloc (.cells #[.int .i64 K, .slice A L.length capL] 74)) (w.heap.size + 1) #[.int .i64 K, .slice A L.length capL] 74) := hid (Blk.new' (by simp))
  generalize ((w.alloc (.cells #[.int .i64 c.th, .int .i64 c.sl, .int .i64 c.cp, .int .i64 c.he, .int .i64 c.ke, .int .i64 c.ev, .int .i64 c.la] 23)).alloc (.cells #[.int .i64 K, .slice A L.length capL] 74)) = w0 at *
  refine (HR.out _ _ _ (HK.out.gr G0.out) HC1.out).mono ?_
  rintro e w1 ⟨rfl, g1⟩
  have BX := hid (Blk.gr AX.out g1)
  have BZ := hid (Blk.gr AZ.out g1)
  have G1 := hid (Gr.trans G0.out g1)
  clear g1 AX AZ G0
  have z0 := BZ.out.cell (i := 0) rfl
  have z1 := BZ.out.cell (i := 1) rfl
  go_wp2_with fail
  refine (halive _).mono ?_
  rintro e W8 ⟨rfl, g8⟩
  go_wp2_with fail
  go_ret
  exact ⟨rfl, Gr.trans G1.out g8⟩

set_option maxRecDepth 100000 in
set_option maxHeartbeats 4000000 in
theorem lost_long (c : Cf) (ns : List S69) (A1 : Option Addr) (cap1 : Nat) (K : Int) (A : Option Addr) (L : List Int) (capL : Nat) (w : World) (hk : NRow w A1 ns) (hc1 : ns.length ≤ cap1) (hrc : ∀ (A : Option Addr) (cap : Nat) (w : World), NRow w A ns → ns.length ≤ cap → Calls Try.prog 36 #[c.val, .slice A ns.length cap] w fun e w' => e = .returned (.bool true) ∧ Gr w w') (hlong : 20 < L.length) :
    Calls Try.prog 12 #[.agg #[.int .i64 c.th, .int .i64 c.sl, .int .i64 c.cp, .int .i64 c.he, .int .i64 c.ke, .int .i64 c.ev, .int .i64 c.la], .slice A1 ns.length cap1, .agg #[.int .i64 K, .slice A L.length capL]] w fun e w' => e = .returned (.bool true) ∧ Gr w w' := by
  have hd : decide (20 < (L.length : Int)) = true := decide_eq_true (by omega)
  have hr := hrc
  unfold Cf.val at hr
  have HR := hid hr
  have HK := hid hk
  have HC1 := hid hc1
  clear hr hk hrc hc1
  go_enter Try.func12, Try.ntmps12
  go_wp2_with fail
  have G0 := hid (((Gr.refl w).alloc (.cells #[.int .i64 c.th, .int .i64 c.sl, .int .i64 c.cp, .int .i64 c.he, .int .i64 c.ke, .int .i64 c.ev, .int .i64 c.la] 23)).alloc (.cells #[.int .i64 K, .slice A L.length capL] 74))
  have AX := hid ((Blk.new w #[.int .i64 c.th, .int .i64 c.sl, .int .i64 c.cp, .int .i64 c.he, .int .i64 c.ke, .int .i64 c.ev, .int .i64 c.la] 23).alloc (.cells #[.int .i64 K, .slice A L.length capL] 74))
  have AZ : Hid (Blk ((w.alloc (.cells #[.int .i64 c.th, .int .i64 c.sl, .int .i64 c.cp, .int .i64 c.he, .int .i64 c.ke, .int .i64 c.ev, .int .i64 c.la] 23)).alloc (.cells #[.int .i64 K, .slice A L.length capL] 74)) (w.heap.size + 1) #[.int .i64 K, .slice A L.length capL] 74) := hid (Blk.new' (by simp))
  generalize ((w.alloc (.cells #[.int .i64 c.th, .int .i64 c.sl, .int .i64 c.cp, .int .i64 c.he, .int .i64 c.ke, .int .i64 c.ev, .int .i64 c.la] 23)).alloc (.cells #[.int .i64 K, .slice A L.length capL] 74)) = w0 at *
  refine (HR.out _ _ _ (HK.out.gr G0.out) HC1.out).mono ?_
  rintro e w1 ⟨rfl, g1⟩
  have BX := hid (Blk.gr AX.out g1)
  have BZ := hid (Blk.gr AZ.out g1)
  have G1 := hid (Gr.trans G0.out g1)
  clear g1 AX AZ G0
  have z0 := BZ.out.cell (i := 0) rfl
  have z1 := BZ.out.cell (i := 1) rfl
  go_wp2_with fail
  refine (halive _).mono ?_
  rintro e W8 ⟨rfl, g8⟩
  go_wp2_with fail
  go_ret
  exact ⟨rfl, Gr.trans G1.out g8⟩

set_option maxRecDepth 100000 in
set_option maxHeartbeats 4000000 in
theorem lost_neg (c : Cf) (ns : List S69) (A1 : Option Addr) (cap1 : Nat) (K : Int) (A : Option Addr) (L : List Int) (capL : Nat) (w : World) (hk : NRow w A1 ns) (hc1 : ns.length ≤ cap1) (hrc : ∀ (A : Option Addr) (cap : Nat) (w : World), NRow w A ns → ns.length ≤ cap → Calls Try.prog 36 #[c.val, .slice A ns.length cap] w fun e w' => e = .returned (.bool true) ∧ Gr w w') (hlong : ¬ 20 < L.length) (hneg : K < 0) :
    Calls Try.prog 12 #[.agg #[.int .i64 c.th, .int .i64 c.sl, .int .i64 c.cp, .int .i64 c.he, .int .i64 c.ke, .int .i64 c.ev, .int .i64 c.la], .slice A1 ns.length cap1, .agg #[.int .i64 K, .slice A L.length capL]] w fun e w' => e = .returned (.bool true) ∧ Gr w w' := by
  have hd : decide (20 < (L.length : Int)) = false := decide_eq_false (by omega)
  have hdk : decide (K < 0) = true := decide_eq_true hneg
  have hr := hrc
  unfold Cf.val at hr
  have HR := hid hr
  have HK := hid hk
  have HC1 := hid hc1
  clear hr hk hrc hc1
  go_enter Try.func12, Try.ntmps12
  go_wp2_with fail
  have G0 := hid (((Gr.refl w).alloc (.cells #[.int .i64 c.th, .int .i64 c.sl, .int .i64 c.cp, .int .i64 c.he, .int .i64 c.ke, .int .i64 c.ev, .int .i64 c.la] 23)).alloc (.cells #[.int .i64 K, .slice A L.length capL] 74))
  have AX := hid ((Blk.new w #[.int .i64 c.th, .int .i64 c.sl, .int .i64 c.cp, .int .i64 c.he, .int .i64 c.ke, .int .i64 c.ev, .int .i64 c.la] 23).alloc (.cells #[.int .i64 K, .slice A L.length capL] 74))
  have AZ : Hid (Blk ((w.alloc (.cells #[.int .i64 c.th, .int .i64 c.sl, .int .i64 c.cp, .int .i64 c.he, .int .i64 c.ke, .int .i64 c.ev, .int .i64 c.la] 23)).alloc (.cells #[.int .i64 K, .slice A L.length capL] 74)) (w.heap.size + 1) #[.int .i64 K, .slice A L.length capL] 74) := hid (Blk.new' (by simp))
  generalize ((w.alloc (.cells #[.int .i64 c.th, .int .i64 c.sl, .int .i64 c.cp, .int .i64 c.he, .int .i64 c.ke, .int .i64 c.ev, .int .i64 c.la] 23)).alloc (.cells #[.int .i64 K, .slice A L.length capL] 74)) = w0 at *
  refine (HR.out _ _ _ (HK.out.gr G0.out) HC1.out).mono ?_
  rintro e w1 ⟨rfl, g1⟩
  have BX := hid (Blk.gr AX.out g1)
  have BZ := hid (Blk.gr AZ.out g1)
  have G1 := hid (Gr.trans G0.out g1)
  clear g1 AX AZ G0
  have z0 := BZ.out.cell (i := 0) rfl
  have z1 := BZ.out.cell (i := 1) rfl
  go_wp2_with fail
  refine (halive _).mono ?_
  rintro e W8 ⟨rfl, g8⟩
  go_wp2_with fail
  go_ret
  exact ⟨rfl, Gr.trans G1.out g8⟩

set_option maxRecDepth 100000 in
set_option maxHeartbeats 4000000 in
theorem lost_over (c : Cf) (ns : List S69) (A1 : Option Addr) (cap1 : Nat) (K : Int) (A : Option Addr) (L : List Int) (capL : Nat) (w : World) (hk : NRow w A1 ns) (hc1 : ns.length ≤ cap1) (hrc : ∀ (A : Option Addr) (cap : Nat) (w : World), NRow w A ns → ns.length ≤ cap → Calls Try.prog 36 #[c.val, .slice A ns.length cap] w fun e w' => e = .returned (.bool true) ∧ Gr w w') (hlong : ¬ 20 < L.length) (hneg : ¬ K < 0) (hov : (ns.length : Int) ≤ K) :
    Calls Try.prog 12 #[.agg #[.int .i64 c.th, .int .i64 c.sl, .int .i64 c.cp, .int .i64 c.he, .int .i64 c.ke, .int .i64 c.ev, .int .i64 c.la], .slice A1 ns.length cap1, .agg #[.int .i64 K, .slice A L.length capL]] w fun e w' => e = .returned (.bool true) ∧ Gr w w' := by
  have hd : decide (20 < (L.length : Int)) = false := decide_eq_false (by omega)
  have hdk : decide (K < 0) = false := decide_eq_false hneg
  have hdn : decide ((ns.length : Int) ≤ K) = true := decide_eq_true hov
  have hr := hrc
  unfold Cf.val at hr
  have HR := hid hr
  have HK := hid hk
  have HC1 := hid hc1
  clear hr hk hrc hc1
  go_enter Try.func12, Try.ntmps12
  go_wp2_with fail
  have G0 := hid (((Gr.refl w).alloc (.cells #[.int .i64 c.th, .int .i64 c.sl, .int .i64 c.cp, .int .i64 c.he, .int .i64 c.ke, .int .i64 c.ev, .int .i64 c.la] 23)).alloc (.cells #[.int .i64 K, .slice A L.length capL] 74))
  have AX := hid ((Blk.new w #[.int .i64 c.th, .int .i64 c.sl, .int .i64 c.cp, .int .i64 c.he, .int .i64 c.ke, .int .i64 c.ev, .int .i64 c.la] 23).alloc (.cells #[.int .i64 K, .slice A L.length capL] 74))
  have AZ : Hid (Blk ((w.alloc (.cells #[.int .i64 c.th, .int .i64 c.sl, .int .i64 c.cp, .int .i64 c.he, .int .i64 c.ke, .int .i64 c.ev, .int .i64 c.la] 23)).alloc (.cells #[.int .i64 K, .slice A L.length capL] 74)) (w.heap.size + 1) #[.int .i64 K, .slice A L.length capL] 74) := hid (Blk.new' (by simp))
  generalize ((w.alloc (.cells #[.int .i64 c.th, .int .i64 c.sl, .int .i64 c.cp, .int .i64 c.he, .int .i64 c.ke, .int .i64 c.ev, .int .i64 c.la] 23)).alloc (.cells #[.int .i64 K, .slice A L.length capL] 74)) = w0 at *
  refine (HR.out _ _ _ (HK.out.gr G0.out) HC1.out).mono ?_
  rintro e w1 ⟨rfl, g1⟩
  have BX := hid (Blk.gr AX.out g1)
  have BZ := hid (Blk.gr AZ.out g1)
  have G1 := hid (Gr.trans G0.out g1)
  clear g1 AX AZ G0
  have z0 := BZ.out.cell (i := 0) rfl
  have z1 := BZ.out.cell (i := 1) rfl
  go_wp2_with fail
  refine (halive _).mono ?_
  rintro e W8 ⟨rfl, g8⟩
  go_wp2_with fail
  go_ret
  exact ⟨rfl, Gr.trans G1.out g8⟩

set_option maxRecDepth 100000 in
set_option maxHeartbeats 4000000 in
theorem lost_main_some (c : Cf) (ns : List S69) (b0 : Addr) (cap1 : Nat) (k : Nat) (a0 : Addr) (L : List Int) (capL : Nat) (w : World) (hk : NRow w (some b0) ns) (hc1 : ns.length ≤ cap1) (hrc : ∀ (A : Option Addr) (cap : Nat) (w : World), NRow w A ns → ns.length ≤ cap → Calls Try.prog 36 #[c.val, .slice A ns.length cap] w fun e w' => e = .returned (.bool true) ∧ Gr w w') (hlong : ¬ 20 < L.length) (N : NodesOk c ns) (F : ∀ n ∈ ns, U64 n.f0 ∧ U64 n.f1) (hkl : k < ns.length) (h : Int) (hh : U64 h) (hi : hI h = (k : Int) + 1) (hO : ∀ w, Calls Try.prog 40 #[.int .i64 (wrap64 ((k : Int) + 1)), .int .i64 0] w fun e w' => e = .returned (.int .u64 h) ∧ Gr w w') (hu : ∀ x ∈ L, U64 x) (hL : ∀ i, i < L.length → w.cell? (a0.add i) = some (.int .u64 (L.getD i 0))) :
    Calls Try.prog 12 #[.agg #[.int .i64 c.th, .int .i64 c.sl, .int .i64 c.cp, .int .i64 c.he, .int .i64 c.ke, .int .i64 c.ev, .int .i64 c.la], .slice (some b0) ns.length cap1, .agg #[.int .i64 (k : Int), .slice (some a0) L.length capL]] w fun e w' => e = .returned (.bool true) ∧ Gr w w' := by
  obtain ⟨l, P, hly0⟩ := lay_words c ns N F
  have hof0 := fun v w hv => mof_any c N.ok v l w hv P.len
  unfold Cf.val at hly0 hof0
  have HLY := hid hly0
  have HOF := hid hof0
  have hd : decide (20 < (L.length : Int)) = false := decide_eq_false (by omega)
  have hdk : decide ((k : Int) < 0) = false := decide_eq_false (by omega)
  have hdn : decide ((ns.length : Int) ≤ (k : Int)) = false := decide_eq_false (by omega)
  clear hly0 hof0
  obtain ⟨T, hT, C, R, U⟩ := part_ctx N P hh hkl hi
  have hk0 : 0 ≤ (k : Int) := by omega
  have hkl' : (k : Int) < ns.length := by omega
  have CT := hid C
  have HT := hid hT
  have HOK := hid C.ok
  have T0 := hid (Ls.new R hh)
  have HT6 : Hid (T ≤ 6) := hid (by have := C.t1; have := C.ok.2.2.2.2.2.2.2.1; omega)
  have HLL := hid hL
  have HU := hid hu
  have HO := hid hO
  clear hT C R U hL hi hO hu
  have hr := hrc
  unfold Cf.val at hr
  have HR := hid hr
  have HK := hid hk
  have HC1 := hid hc1
  clear hr hk hrc hc1
  go_enter Try.func12, Try.ntmps12
  go_wp2_with fail
  have G0 := hid (((Gr.refl w).alloc (.cells #[.int .i64 c.th, .int .i64 c.sl, .int .i64 c.cp, .int .i64 c.he, .int .i64 c.ke, .int .i64 c.ev, .int .i64 c.la] 23)).alloc (.cells #[.int .i64 (k : Int), .slice (some a0) L.length capL] 74))
  have AX := hid ((Blk.new w #[.int .i64 c.th, .int .i64 c.sl, .int .i64 c.cp, .int .i64 c.he, .int .i64 c.ke, .int .i64 c.ev, .int .i64 c.la] 23).alloc (.cells #[.int .i64 (k : Int), .slice (some a0) L.length capL] 74))
  have AZ : Hid (Blk ((w.alloc (.cells #[.int .i64 c.th, .int .i64 c.sl, .int .i64 c.cp, .int .i64 c.he, .int .i64 c.ke, .int .i64 c.ev, .int .i64 c.la] 23)).alloc (.cells #[.int .i64 (k : Int), .slice (some a0) L.length capL] 74)) (w.heap.size + 1) #[.int .i64 (k : Int), .slice (some a0) L.length capL] 74) := hid (Blk.new' (by simp))
  generalize ((w.alloc (.cells #[.int .i64 c.th, .int .i64 c.sl, .int .i64 c.cp, .int .i64 c.he, .int .i64 c.ke, .int .i64 c.ev, .int .i64 c.la] 23)).alloc (.cells #[.int .i64 (k : Int), .slice (some a0) L.length capL] 74)) = w0 at *
  refine (HR.out _ _ _ (HK.out.gr G0.out) HC1.out).mono ?_
  rintro e w1 ⟨rfl, g1⟩
  have BX := hid (Blk.gr AX.out g1)
  have BZ := hid (Blk.gr AZ.out g1)
  have G1 := hid (Gr.trans G0.out g1)
  clear g1 AX AZ G0
  have z0 := BZ.out.cell (i := 0) rfl
  have z1 := BZ.out.cell (i := 1) rfl
  go_wp2_with fail
  clear z0 z1
  have hz1 := HK.out
  refine wp_region_anyC (n := 10) (Gr w1) (by kernel_rfl) rfl ?_
  refine anyC_quiet (a1 := ?a1) (by kernel_rfl) 7 [0, 1, 2] _ _ _ (by kernel_rfl) (by kernel_rfl) (Gr.refl w1).drew ?_ ?_
  rotate_left
  · intro w' g'
    have hne : Nonempty (St (· = w')) := ⟨⟨w', rfl⟩⟩
    have X3 := BX.out.gr g'
    have y0 : ∀ s : St (· = w'), s.val.cell? ⟨w.heap.size, 0, none⟩ = some (.int .i64 c.th) := fun s => by rw [s.ok]; exact X3.cell rfl
    have y1 : ∀ s : St (· = w'), s.val.cell? ⟨w.heap.size, 1, none⟩ = some (.int .i64 c.sl) := fun s => by rw [s.ok]; exact X3.cell rfl
    have y2 : ∀ s : St (· = w'), s.val.cell? ⟨w.heap.size, 2, none⟩ = some (.int .i64 c.cp) := fun s => by rw [s.ok]; exact X3.cell rfl
    have y3 : ∀ s : St (· = w'), s.val.cell? ⟨w.heap.size, 3, none⟩ = some (.int .i64 c.he) := fun s => by rw [s.ok]; exact X3.cell rfl
    have y4 : ∀ s : St (· = w'), s.val.cell? ⟨w.heap.size, 4, none⟩ = some (.int .i64 c.ke) := fun s => by rw [s.ok]; exact X3.cell rfl
    have y5 : ∀ s : St (· = w'), s.val.cell? ⟨w.heap.size, 5, none⟩ = some (.int .i64 c.ev) := fun s => by rw [s.ok]; exact X3.cell rfl
    have y6 : ∀ s : St (· = w'), s.val.cell? ⟨w.heap.size, 6, none⟩ = some (.int .i64 c.la) := fun s => by rw [s.ok]; exact X3.cell rfl
    clear X3 g'
    conv => arg 5; simp only [picked, List.filterMap_cons, List.filterMap_nil, List.getElem?_toArray, List.getElem?_cons_zero, List.getElem?_cons_succ]
    show wpQuiet _ _ _ _ [_, _, _] _
    repeat (go_big_quiet_step (fail))
    refine wpQuiet_nil ?_
    rfl
  have HKd : Hid (NRow w1.drew (some b0) ns) := hid (HK.out.gr (G1.out.drew))
  refine anyC_alone 3 (Gr.refl w1).drew (by kernel_rfl) (by kernel_rfl) ?_
  conv => arg 4; simp only [picked, List.filterMap_cons, List.filterMap_nil, List.getElem?_toArray, List.getElem?_cons_zero, List.getElem?_cons_succ]
  show wpList _ _ _ [_] _ _
  go_wp2_with fail
  refine (HLY.out _ _ _ HKd.out HC1.out).mono ?_
  rintro e w2 ⟨⟨v, rfl, hw2⟩, g2⟩
  have W2 := hid hw2
  have C2 : Hid (Gr w1 w2) := hid (Gr.trans (Gr.refl w1).drew g2)
  clear hw2 g2
  go_wp2_with fail
  refine ⟨C2.out, ?_⟩
  refine anyC_alone 4 C2.out (by kernel_rfl) (by kernel_rfl) ?_
  conv => arg 4; simp only [picked, List.filterMap_cons, List.filterMap_nil, List.getElem?_toArray, List.getElem?_cons_zero, List.getElem?_cons_succ]
  show wpList _ _ _ [_] _ _
  go_wp2_with fail
  refine (HOF.out v w2 W2.out).mono ?_
  rintro e w3 ⟨m, p, q, rfl, hm3, g3, sm, sp, sq⟩
  have M3 := hid hm3
  have C3 := hid (Gr.trans C2.out g3)
  have SS := hid (⟨sm, sp, sq⟩ : _ ∧ _ ∧ _)
  clear g3 hm3 sm sp sq
  go_wp2_with fail
  refine ⟨C3.out, ?_⟩
  refine anyC_quiet (a1 := ?a2) (by kernel_rfl) 0 [5, 6, 7, 8, 9] _ _ _ (by kernel_rfl) (by kernel_rfl) C3.out ?_ ?_
  rotate_left
  · intro w' g'
    have hne : Nonempty (St (· = w')) := ⟨⟨w', rfl⟩⟩
    clear g'
    conv => arg 5; simp only [picked, List.filterMap_cons, List.filterMap_nil, List.getElem?_toArray, List.getElem?_cons_zero, List.getElem?_cons_succ]
    show wpQuiet _ _ _ _ [_, _, _, _, _] _
    repeat (go_big_quiet_step (fail))
    refine wpQuiet_nil ?_
    rfl
  refine ⟨by kernel_rfl, ?_⟩
  have BX3 := hid (BX.out.gr C3.out)
  have BZ3 := hid (BZ.out.gr C3.out)
  have G3 := hid (Gr.trans G1.out C3.out)
  have z0 := BZ3.out.cell (i := 0) rfl
  go_wp2_with fail
  refine (HO.out _).mono ?_
  rintro e w4 ⟨rfl, g4⟩
  clear z0
  go_wp2_with fail
  refine (hnew_any h _).mono ?_
  rintro e w6 ⟨rfl, rfl⟩
  have G46 := hid (Gr.trans g4 ((Gr.refl w4).alloc (.cells (helpRow (HS.new h)) 98)))
  have D1 : Hid (Blk (w4.alloc (.cells (helpRow (HS.new h)) 98)) w4.heap.size (helpRow (HS.new h)) 98) := hid (Blk.new' rfl)
  have mlt : m < w3.heap.size := M3.out.mem.lt
  have plt : p < w3.heap.size := M3.out.bank.head.lt
  have qlt : q < w3.heap.size := M3.out.bank.row.lt
  have MA7 := hid (M3.out.gr G46.out)
  have CZ := hid (BZ3.out.gr G46.out)
  have G17 := hid (Gr.trans C3.out G46.out)
  have ss := SS.out
  have s2 := C2.out.size
  have s3 := C3.out.size
  have s4 := g4.size
  have n1 : w4.heap.size ≠ m ∧ w4.heap.size ≠ p ∧ w4.heap.size ≠ q := ⟨by omega, by omega, by omega⟩
  have t1 : ∀ k, Tri w4.heap.size p q k → w1.heap.size ≤ k := by
    intro k hk
    unfold Tri at hk
    rcases hk with hk | hk | hk <;> omega
  have t2 : ∀ k, Two p q k → w1.heap.size ≤ k ∧ k ≠ w4.heap.size := by
    intro k hk
    unfold Two at hk
    rcases hk with hk | hk <;> (refine ⟨?_, ?_⟩ <;> omega)
  have N1 := hid n1
  have T1 := hid t1
  have T2 := hid t2
  clear n1 t1 t2 ss s2 s3 s4 g4 mlt plt qlt hz1
  generalize hah : w4.heap.size = ah at *
  generalize (w4.alloc (.cells (helpRow (HS.new h)) 98)) = W6 at *
  clear hah
  have z1 := CZ.out.cell (i := 1) rfl
  go_wp2_with fail
  clear z1
  go_loopw [64] (fun i wr => ∃ (n : Nat) (Ha : HS) (B : Bk), n ≤ L.length ∧ i = .int .i64 (n : Int) ∧ IsHelp wr ah Ha ∧ IsMem wr m p q c B ∧ Gr w1 wr ∧ Ls c h T Ha B (3 * n)) (fun i _ => L.length - (intOf i).toNat)
  case atStart => exact ⟨0, HS.new h, ⟨l, 0, Acc.zero⟩, Nat.zero_le _, rfl, D1.out, MA7.out, G17.out, T0.out⟩
  case round =>
    obtain ⟨n, Ha, B, hn, rfl, ha, hma, hg, ht⟩ := hrel
    have ha := hid ha
    have hma := hid hma
    have hg := hid hg
    have ht := hid ht
    have hn100 : 3 * n ≤ 60 := by omega
    have hn100 : 3 * n ≤ 100 := by omega
    by_cases hlt : n < L.length
    · have hlt' : (n : Int) < L.length := by omega
      have hn0 : 0 ≤ (n : Int) := by omega
      have xc := Gr.cell (Gr.trans G1.out hg.out) (HLL.out n hlt)
      have hwu := hid (getD_u64 HU.out n)
      generalize L.getD n 0 = wd at *
      by_cases hdn9 : Ha.st = .done
      · have hd9 := hid (hdone_yes ah Ha _ ha.out hdn9)
        clear hdn9
        go_wp2_with fail
        refine hd9.out.mono ?_
        rintro e w8 ⟨rfl, rfl⟩
        have he := hid (ends_any ah m p q c HOK.out Ha B _ 100 (by omega) ha.out hma.out N1.out.1 N1.out.2.1 N1.out.2.2 ht.out.fit ht.out.row.wd)
        obtain ⟨dn0, fn0⟩ := ht.out.ends CT.out hn100
        have DN := hid dn0
        have FN := hid fn0
        clear dn0 fn0
        go_wp2_with fail
        refine he.out.mono ?_
        rintro e wa ⟨rfl, u1, u2, u3⟩
        have fA := hid u1
        have fM := hid u2
        have fG := hid (Gr.step hg.out u3 T1.out)
        clear u1 u2 u3 he
        generalize (endsf c 100 Ha B).2.1 = H9 at *
        generalize (endsf c 100 Ha B).2.2 = B9 at *
        generalize (endsf c 100 Ha B).1 = n9 at *
        have CZ9 := hid (BZ.out.gr fG.out)
        have z0 := CZ9.out.cell (i := 0) rfl
        have nd := hid (at_T69 (HK.out.gr (Gr.trans G1.out fG.out) : Kd.C k69 wa (some b0) ns.length ns) (k : Int) hk0 hkl')
        obtain ⟨ad, e, c0, c1, c2, c3, c4⟩ := nd.out
        cases e
        rw [← HT.out] at c2
        simp only [Int.toNat_natCast] at c2
        clear c0 c1 c3 c4
        go_wp2_with fail
        clear z0 c2
        go_loopw [98] (fun i wr => ∃ (j : Nat) (B' : Bk), j ≤ T ∧ i = .int .i64 (j : Int) ∧ IsHelp wr ah H9 ∧ IsMem wr m p q c B' ∧ Fin c h T B' ∧ Gr w1 wr) (fun i _ => T - (intOf i).toNat)
        case atStart => exact ⟨0, B9, Nat.zero_le _, rfl, fA.out, fM.out, FN.out, fG.out⟩
        case round =>
          obtain ⟨j, B', hj, rfl, ga, gm, gf, gg⟩ := hrel
          have ga := hid ga
          have gm := hid gm
          have gf := hid gf
          have gg := hid gg
          by_cases hjt : j < T
          · have hjt' : (j : Int) < T := by omega
            have ho := lev_load CT.out gf.out.row hjt (hPl h)
            have ha := gf.out.all j hjt
            have hw6 : wrap64 (6 + (j : Int)) = 6 + (j : Int) := w64 (by omega) (by have := CT.out.t1; have := HOK.out.2.2.2.2.2.2.2.1; omega)
            have hld0 := mload_any m p q c B' h (6 + (j : Int)) hh wr gm.out
            rw [ho] at hld0
            rw [← hw6] at hld0
            have hld := hid hld0
            have hmk0 := marked_any (B'.cells.getD (lc c h j) 0) (getD_u64 gf.out.row.wd _)
            rw [ha] at hmk0
            have hmk := hid hmk0
            have gf2 := hid (gf.out.load (c.cel (hI h) (wrap64 (6 + (j : Int)))) (hPl h))
            clear ho ha hw6 hld0 hmk0
            go_wp2_with fail
            refine hld.out.mono ?_
            rintro e wb ⟨rfl, v1, v2⟩
            have iM := hid (⟨gm.out.mem.chg v2 (fun k => k.elim gm.out.nmp gm.out.nmq), v1, gm.out.nmp, gm.out.nmq⟩ : IsMem wb m p q c _)
            have iA := hid (Blk.chg ga.out v2 (fun k => (T2.out _ k).2 rfl))
            have iG := hid (Gr.step gg.out v2 (fun k hk => (T2.out k hk).1))
            clear v1 v2
            go_wp2_with fail
            refine (hmk.out _).mono ?_
            rintro e wc ⟨rfl, rfl⟩
            go_wp2_with fail
            go_roundw
            case rel => exact ⟨j + 1, _, hjt, lev_num hjt HT6.out, iA.out, iM.out, gf2.out, iG.out⟩
            case measure => exact lev_meas hjt HT6.out
          · have hge : ¬ (j : Int) < T := by omega
            go_wp2_with fail
            refine (halive _).mono ?_
            rintro e u8 ⟨rfl, g8⟩
            have hdn := hid (hdone_yes ah H9 u8 (Blk.gr ga.out g8) DN.out)
            go_wp2_with fail
            refine hdn.out.mono ?_
            rintro e u9 ⟨rfl, rfl⟩
            go_wp2_with fail
            go_ret
            exact ⟨rfl, Gr.trans G1.out (Gr.trans gg.out g8)⟩
      · have hd9 := hid (hdone_no ah Ha _ ha.out hdn9)
        have hs := hid (hstep_any ah m p q c HOK.out Ha B _ ha.out hma.out N1.out.1 N1.out.2.1 N1.out.2.2 ht.out.fit ht.out.row.wd)
        have tn := hid (ht.out.step CT.out hn100)
        clear hdn9
        go_wp2_with fail
        refine hd9.out.mono ?_
        rintro e w8 ⟨rfl, rfl⟩
        go_wp2_with fail
        refine hs.out.mono ?_
        rintro e w9 ⟨rfl, u1, u2, u3⟩
        have hA := hid u1
        have uM := hid u2
        have hG := hid (Gr.step hg.out u3 T1.out)
        clear u1 u2 u3 xc hs ha hma hg ht hd9
        generalize (Ha.step c B).1 = H1 at *
        generalize (Ha.step c B).2 = B1 at *
        by_cases hdn1 : H1.st = .done
        · have hd1 := hid (hdone_yes ah H1 _ hA.out hdn1)
          clear hdn1
          go_wp2_with fail
          refine hd1.out.mono ?_
          rintro e wa ⟨rfl, rfl⟩
          go_wp2_with fail
          go_roundw
          case rel => exact ⟨n + 1, H1, B1, by omega, by go_num, hA.out, uM.out, hG.out, tn.out.mono (by omega)⟩
          case measure => exact ls_meas hlt
        · have hd1 := hid (hdone_no ah H1 _ hA.out hdn1)
          have DN1 := hid hdn1
          clear hdn1
          have ho := lev_load CT.out tn.out.row CT.out.t0 (hPl h)
          simp only [Int.natCast_zero, Int.add_zero] at ho
          have hld0 := mload_any m p q c B1 h 6 hh w9 uM.out
          rw [ho] at hld0
          have hld := hid hld0
          have hmk := hid (marked_any _ (getD_u64 tn.out.row.wd (lc c h 0)))
          have tl := hid (tn.out.load (by omega) (c.cel (hI h) 6) (hPl h))
          clear ho hld0
          generalize B1.cells.getD (lc c h 0) 0 = x0 at *
          go_wp2_with fail
          refine hd1.out.mono ?_
          rintro e wa ⟨rfl, rfl⟩
          go_wp2_with fail
          refine hld.out.mono ?_
          rintro e wb ⟨rfl, v1, v2⟩
          have iM := hid (⟨uM.out.mem.chg v2 (fun k => k.elim uM.out.nmp uM.out.nmq), v1, uM.out.nmp, uM.out.nmq⟩ : IsMem wb m p q c _)
          have iA := hid (Blk.chg hA.out v2 (fun k => (T2.out _ k).2 rfl))
          have iG := hid (Gr.step hG.out v2 (fun k hk => (T2.out k hk).1))
          clear v1 v2 hld hd1
          generalize B1.load (c.cel (hI h) 6) (hPl h) = B2 at *
          cases em : hM x0
          · rw [em] at hmk
            have hpl := hid (plain_any wd hwu.out)
            have hpu := (pl_facts hwu.out).1
            have hst := hid (mstore_any m p q c B2 h 6 (hPl wd) hh _ iM.out)
            have ts := hid (tl.out.store CT.out (by omega) DN1.out (hPl h) hpu)
            clear hpu
            generalize B2.store (c.cel (hI h) 6) (hPl h) (hPl wd) = B3 at *
            generalize hPl wd = pw at *
            go_wp2_with fail
            refine (hmk.out _).mono ?_
            rintro e wc ⟨rfl, rfl⟩
            go_wp2_with fail
            refine (hpl.out _).mono ?_
            rintro e wd' ⟨rfl, rfl⟩
            go_wp2_with fail
            refine hst.out.mono ?_
            rintro e we ⟨rfl, v1, v2⟩
            have jM := hid (⟨iM.out.mem.chg v2 (fun k => k.elim iM.out.nmp iM.out.nmq), v1, iM.out.nmp, iM.out.nmq⟩ : IsMem we m p q c _)
            have jA := hid (Blk.chg iA.out v2 (fun k => (T2.out _ k).2 rfl))
            have jG := hid (Gr.step iG.out v2 (fun k hk => (T2.out k hk).1))
            clear v1 v2
            go_wp2_with fail
            go_roundw
            case rel => exact ⟨n + 1, H1, B3, by omega, by go_num, jA.out, jM.out, jG.out, ts.out.mono (by omega)⟩
            case measure => exact ls_meas hlt
          · rw [em] at hmk
            go_wp2_with fail
            refine (hmk.out _).mono ?_
            rintro e wc ⟨rfl, rfl⟩
            go_wp2_with fail
            go_roundw
            case rel => exact ⟨n + 1, H1, B2, by omega, by go_num, iA.out, iM.out, iG.out, tl.out.mono (by omega)⟩
            case measure => exact ls_meas hlt
    · have hge : ¬ (n : Int) < L.length := by omega
      have he := hid (ends_any ah m p q c HOK.out Ha B _ 100 (by omega) ha.out hma.out N1.out.1 N1.out.2.1 N1.out.2.2 ht.out.fit ht.out.row.wd)
      obtain ⟨dn0, fn0⟩ := ht.out.ends CT.out hn100
      have DN := hid dn0
      have FN := hid fn0
      clear dn0 fn0
      go_wp2_with fail
      refine he.out.mono ?_
      rintro e wa ⟨rfl, u1, u2, u3⟩
      have fA := hid u1
      have fM := hid u2
      have fG := hid (Gr.step hg.out u3 T1.out)
      clear u1 u2 u3 he
      generalize (endsf c 100 Ha B).2.1 = H9 at *
      generalize (endsf c 100 Ha B).2.2 = B9 at *
      generalize (endsf c 100 Ha B).1 = n9 at *
      have CZ9 := hid (BZ.out.gr fG.out)
      have z0 := CZ9.out.cell (i := 0) rfl
      have nd := hid (at_T69 (HK.out.gr (Gr.trans G1.out fG.out) : Kd.C k69 wa (some b0) ns.length ns) (k : Int) hk0 hkl')
      obtain ⟨ad, e, c0, c1, c2, c3, c4⟩ := nd.out
      cases e
      rw [← HT.out] at c2
      simp only [Int.toNat_natCast] at c2
      clear c0 c1 c3 c4
      go_wp2_with fail
      clear z0 c2
      go_loopw [98] (fun i wr => ∃ (j : Nat) (B' : Bk), j ≤ T ∧ i = .int .i64 (j : Int) ∧ IsHelp wr ah H9 ∧ IsMem wr m p q c B' ∧ Fin c h T B' ∧ Gr w1 wr) (fun i _ => T - (intOf i).toNat)
      case atStart => exact ⟨0, B9, Nat.zero_le _, rfl, fA.out, fM.out, FN.out, fG.out⟩
      case round =>
        obtain ⟨j, B', hj, rfl, ga, gm, gf, gg⟩ := hrel
        have ga := hid ga
        have gm := hid gm
        have gf := hid gf
        have gg := hid gg
        by_cases hjt : j < T
        · have hjt' : (j : Int) < T := by omega
          have ho := lev_load CT.out gf.out.row hjt (hPl h)
          have ha := gf.out.all j hjt
          have hw6 : wrap64 (6 + (j : Int)) = 6 + (j : Int) := w64 (by omega) (by have := CT.out.t1; have := HOK.out.2.2.2.2.2.2.2.1; omega)
          have hld0 := mload_any m p q c B' h (6 + (j : Int)) hh wr gm.out
          rw [ho] at hld0
          rw [← hw6] at hld0
          have hld := hid hld0
          have hmk0 := marked_any (B'.cells.getD (lc c h j) 0) (getD_u64 gf.out.row.wd _)
          rw [ha] at hmk0
          have hmk := hid hmk0
          have gf2 := hid (gf.out.load (c.cel (hI h) (wrap64 (6 + (j : Int)))) (hPl h))
          clear ho ha hw6 hld0 hmk0
          go_wp2_with fail
          refine hld.out.mono ?_
          rintro e wb ⟨rfl, v1, v2⟩
          have iM := hid (⟨gm.out.mem.chg v2 (fun k => k.elim gm.out.nmp gm.out.nmq), v1, gm.out.nmp, gm.out.nmq⟩ : IsMem wb m p q c _)
          have iA := hid (Blk.chg ga.out v2 (fun k => (T2.out _ k).2 rfl))
          have iG := hid (Gr.step gg.out v2 (fun k hk => (T2.out k hk).1))
          clear v1 v2
          go_wp2_with fail
          refine (hmk.out _).mono ?_
          rintro e wc ⟨rfl, rfl⟩
          go_wp2_with fail
          go_roundw
          case rel => exact ⟨j + 1, _, hjt, lev_num hjt HT6.out, iA.out, iM.out, gf2.out, iG.out⟩
          case measure => exact lev_meas hjt HT6.out
        · have hge : ¬ (j : Int) < T := by omega
          go_wp2_with fail
          refine (halive _).mono ?_
          rintro e u8 ⟨rfl, g8⟩
          have hdn := hid (hdone_yes ah H9 u8 (Blk.gr ga.out g8) DN.out)
          go_wp2_with fail
          refine hdn.out.mono ?_
          rintro e u9 ⟨rfl, rfl⟩
          go_wp2_with fail
          go_ret
          exact ⟨rfl, Gr.trans G1.out (Gr.trans gg.out g8)⟩

set_option maxRecDepth 100000 in
set_option maxHeartbeats 4000000 in
theorem lost_main_none (c : Cf) (ns : List S69) (b0 : Addr) (cap1 : Nat) (k : Nat) (L : List Int) (capL : Nat) (w : World) (hk : NRow w (some b0) ns) (hc1 : ns.length ≤ cap1) (hrc : ∀ (A : Option Addr) (cap : Nat) (w : World), NRow w A ns → ns.length ≤ cap → Calls Try.prog 36 #[c.val, .slice A ns.length cap] w fun e w' => e = .returned (.bool true) ∧ Gr w w') (hlong : ¬ 20 < L.length) (N : NodesOk c ns) (F : ∀ n ∈ ns, U64 n.f0 ∧ U64 n.f1) (hkl : k < ns.length) (h : Int) (hh : U64 h) (hi : hI h = (k : Int) + 1) (hO : ∀ w, Calls Try.prog 40 #[.int .i64 (wrap64 ((k : Int) + 1)), .int .i64 0] w fun e w' => e = .returned (.int .u64 h) ∧ Gr w w') (hu : ∀ x ∈ L, U64 x) (hL : L.length = 0) :
    Calls Try.prog 12 #[.agg #[.int .i64 c.th, .int .i64 c.sl, .int .i64 c.cp, .int .i64 c.he, .int .i64 c.ke, .int .i64 c.ev, .int .i64 c.la], .slice (some b0) ns.length cap1, .agg #[.int .i64 (k : Int), .slice none L.length capL]] w fun e w' => e = .returned (.bool true) ∧ Gr w w' := by
  obtain ⟨l, P, hly0⟩ := lay_words c ns N F
  have hof0 := fun v w hv => mof_any c N.ok v l w hv P.len
  unfold Cf.val at hly0 hof0
  have HLY := hid hly0
  have HOF := hid hof0
  have hd : decide (20 < (L.length : Int)) = false := decide_eq_false (by omega)
  have hdk : decide ((k : Int) < 0) = false := decide_eq_false (by omega)
  have hdn : decide ((ns.length : Int) ≤ (k : Int)) = false := decide_eq_false (by omega)
  clear hly0 hof0
  obtain ⟨T, hT, C, R, U⟩ := part_ctx N P hh hkl hi
  have hk0 : 0 ≤ (k : Int) := by omega
  have hkl' : (k : Int) < ns.length := by omega
  have CT := hid C
  have HT := hid hT
  have HOK := hid C.ok
  have T0 := hid (Ls.new R hh)
  have HT6 : Hid (T ≤ 6) := hid (by have := C.t1; have := C.ok.2.2.2.2.2.2.2.1; omega)
  have HLL := hid hL
  have HU := hid hu
  have HO := hid hO
  clear hT C R U hL hi hO hu
  have hr := hrc
  unfold Cf.val at hr
  have HR := hid hr
  have HK := hid hk
  have HC1 := hid hc1
  clear hr hk hrc hc1
  go_enter Try.func12, Try.ntmps12
  go_wp2_with fail
  have G0 := hid (((Gr.refl w).alloc (.cells #[.int .i64 c.th, .int .i64 c.sl, .int .i64 c.cp, .int .i64 c.he, .int .i64 c.ke, .int .i64 c.ev, .int .i64 c.la] 23)).alloc (.cells #[.int .i64 (k : Int), .slice none L.length capL] 74))
  have AX := hid ((Blk.new w #[.int .i64 c.th, .int .i64 c.sl, .int .i64 c.cp, .int .i64 c.he, .int .i64 c.ke, .int .i64 c.ev, .int .i64 c.la] 23).alloc (.cells #[.int .i64 (k : Int), .slice none L.length capL] 74))
  have AZ : Hid (Blk ((w.alloc (.cells #[.int .i64 c.th, .int .i64 c.sl, .int .i64 c.cp, .int .i64 c.he, .int .i64 c.ke, .int .i64 c.ev, .int .i64 c.la] 23)).alloc (.cells #[.int .i64 (k : Int), .slice none L.length capL] 74)) (w.heap.size + 1) #[.int .i64 (k : Int), .slice none L.length capL] 74) := hid (Blk.new' (by simp))
  generalize ((w.alloc (.cells #[.int .i64 c.th, .int .i64 c.sl, .int .i64 c.cp, .int .i64 c.he, .int .i64 c.ke, .int .i64 c.ev, .int .i64 c.la] 23)).alloc (.cells #[.int .i64 (k : Int), .slice none L.length capL] 74)) = w0 at *
  refine (HR.out _ _ _ (HK.out.gr G0.out) HC1.out).mono ?_
  rintro e w1 ⟨rfl, g1⟩
  have BX := hid (Blk.gr AX.out g1)
  have BZ := hid (Blk.gr AZ.out g1)
  have G1 := hid (Gr.trans G0.out g1)
  clear g1 AX AZ G0
  have z0 := BZ.out.cell (i := 0) rfl
  have z1 := BZ.out.cell (i := 1) rfl
  go_wp2_with fail
  clear z0 z1
  have hz1 := HK.out
  refine wp_region_anyC (n := 10) (Gr w1) (by kernel_rfl) rfl ?_
  refine anyC_quiet (a1 := ?a1) (by kernel_rfl) 7 [0, 1, 2] _ _ _ (by kernel_rfl) (by kernel_rfl) (Gr.refl w1).drew ?_ ?_
  rotate_left
  · intro w' g'
    have hne : Nonempty (St (· = w')) := ⟨⟨w', rfl⟩⟩
    have X3 := BX.out.gr g'
    have y0 : ∀ s : St (· = w'), s.val.cell? ⟨w.heap.size, 0, none⟩ = some (.int .i64 c.th) := fun s => by rw [s.ok]; exact X3.cell rfl
    have y1 : ∀ s : St (· = w'), s.val.cell? ⟨w.heap.size, 1, none⟩ = some (.int .i64 c.sl) := fun s => by rw [s.ok]; exact X3.cell rfl
    have y2 : ∀ s : St (· = w'), s.val.cell? ⟨w.heap.size, 2, none⟩ = some (.int .i64 c.cp) := fun s => by rw [s.ok]; exact X3.cell rfl
    have y3 : ∀ s : St (· = w'), s.val.cell? ⟨w.heap.size, 3, none⟩ = some (.int .i64 c.he) := fun s => by rw [s.ok]; exact X3.cell rfl
    have y4 : ∀ s : St (· = w'), s.val.cell? ⟨w.heap.size, 4, none⟩ = some (.int .i64 c.ke) := fun s => by rw [s.ok]; exact X3.cell rfl
    have y5 : ∀ s : St (· = w'), s.val.cell? ⟨w.heap.size, 5, none⟩ = some (.int .i64 c.ev) := fun s => by rw [s.ok]; exact X3.cell rfl
    have y6 : ∀ s : St (· = w'), s.val.cell? ⟨w.heap.size, 6, none⟩ = some (.int .i64 c.la) := fun s => by rw [s.ok]; exact X3.cell rfl
    clear X3 g'
    conv => arg 5; simp only [picked, List.filterMap_cons, List.filterMap_nil, List.getElem?_toArray, List.getElem?_cons_zero, List.getElem?_cons_succ]
    show wpQuiet _ _ _ _ [_, _, _] _
    repeat (go_big_quiet_step (fail))
    refine wpQuiet_nil ?_
    rfl
  have HKd : Hid (NRow w1.drew (some b0) ns) := hid (HK.out.gr (G1.out.drew))
  refine anyC_alone 3 (Gr.refl w1).drew (by kernel_rfl) (by kernel_rfl) ?_
  conv => arg 4; simp only [picked, List.filterMap_cons, List.filterMap_nil, List.getElem?_toArray, List.getElem?_cons_zero, List.getElem?_cons_succ]
  show wpList _ _ _ [_] _ _
  go_wp2_with fail
  refine (HLY.out _ _ _ HKd.out HC1.out).mono ?_
  rintro e w2 ⟨⟨v, rfl, hw2⟩, g2⟩
  have W2 := hid hw2
  have C2 : Hid (Gr w1 w2) := hid (Gr.trans (Gr.refl w1).drew g2)
  clear hw2 g2
  go_wp2_with fail
  refine ⟨C2.out, ?_⟩
  refine anyC_alone 4 C2.out (by kernel_rfl) (by kernel_rfl) ?_
  conv => arg 4; simp only [picked, List.filterMap_cons, List.filterMap_nil, List.getElem?_toArray, List.getElem?_cons_zero, List.getElem?_cons_succ]
  show wpList _ _ _ [_] _ _
  go_wp2_with fail
  refine (HOF.out v w2 W2.out).mono ?_
  rintro e w3 ⟨m, p, q, rfl, hm3, g3, sm, sp, sq⟩
  have M3 := hid hm3
  have C3 := hid (Gr.trans C2.out g3)
  have SS := hid (⟨sm, sp, sq⟩ : _ ∧ _ ∧ _)
  clear g3 hm3 sm sp sq
  go_wp2_with fail
  refine ⟨C3.out, ?_⟩
  refine anyC_quiet (a1 := ?a2) (by kernel_rfl) 0 [5, 6, 7, 8, 9] _ _ _ (by kernel_rfl) (by kernel_rfl) C3.out ?_ ?_
  rotate_left
  · intro w' g'
    have hne : Nonempty (St (· = w')) := ⟨⟨w', rfl⟩⟩
    clear g'
    conv => arg 5; simp only [picked, List.filterMap_cons, List.filterMap_nil, List.getElem?_toArray, List.getElem?_cons_zero, List.getElem?_cons_succ]
    show wpQuiet _ _ _ _ [_, _, _, _, _] _
    repeat (go_big_quiet_step (fail))
    refine wpQuiet_nil ?_
    rfl
  refine ⟨by kernel_rfl, ?_⟩
  have BX3 := hid (BX.out.gr C3.out)
  have BZ3 := hid (BZ.out.gr C3.out)
  have G3 := hid (Gr.trans G1.out C3.out)
  have z0 := BZ3.out.cell (i := 0) rfl
  go_wp2_with fail
  refine (HO.out _).mono ?_
  rintro e w4 ⟨rfl, g4⟩
  clear z0
  go_wp2_with fail
  refine (hnew_any h _).mono ?_
  rintro e w6 ⟨rfl, rfl⟩
  have G46 := hid (Gr.trans g4 ((Gr.refl w4).alloc (.cells (helpRow (HS.new h)) 98)))
  have D1 : Hid (Blk (w4.alloc (.cells (helpRow (HS.new h)) 98)) w4.heap.size (helpRow (HS.new h)) 98) := hid (Blk.new' rfl)
  have mlt : m < w3.heap.size := M3.out.mem.lt
  have plt : p < w3.heap.size := M3.out.bank.head.lt
  have qlt : q < w3.heap.size := M3.out.bank.row.lt
  have MA7 := hid (M3.out.gr G46.out)
  have CZ := hid (BZ3.out.gr G46.out)
  have G17 := hid (Gr.trans C3.out G46.out)
  have ss := SS.out
  have s2 := C2.out.size
  have s3 := C3.out.size
  have s4 := g4.size
  have n1 : w4.heap.size ≠ m ∧ w4.heap.size ≠ p ∧ w4.heap.size ≠ q := ⟨by omega, by omega, by omega⟩
  have t1 : ∀ k, Tri w4.heap.size p q k → w1.heap.size ≤ k := by
    intro k hk
    unfold Tri at hk
    rcases hk with hk | hk | hk <;> omega
  have t2 : ∀ k, Two p q k → w1.heap.size ≤ k ∧ k ≠ w4.heap.size := by
    intro k hk
    unfold Two at hk
    rcases hk with hk | hk <;> (refine ⟨?_, ?_⟩ <;> omega)
  have N1 := hid n1
  have T1 := hid t1
  have T2 := hid t2
  clear n1 t1 t2 ss s2 s3 s4 g4 mlt plt qlt hz1
  generalize hah : w4.heap.size = ah at *
  generalize (w4.alloc (.cells (helpRow (HS.new h)) 98)) = W6 at *
  clear hah
  have z1 := CZ.out.cell (i := 1) rfl
  go_wp2_with fail
  clear z1
  go_loopw [64] (fun i wr => ∃ (n : Nat) (Ha : HS) (B : Bk), n ≤ L.length ∧ i = .int .i64 (n : Int) ∧ IsHelp wr ah Ha ∧ IsMem wr m p q c B ∧ Gr w1 wr ∧ Ls c h T Ha B (3 * n)) (fun i _ => L.length - (intOf i).toNat)
  case atStart => exact ⟨0, HS.new h, ⟨l, 0, Acc.zero⟩, Nat.zero_le _, rfl, D1.out, MA7.out, G17.out, T0.out⟩
  case round =>
    obtain ⟨n, Ha, B, hn, rfl, ha, hma, hg, ht⟩ := hrel
    have ha := hid ha
    have hma := hid hma
    have hg := hid hg
    have ht := hid ht
    have hn100 : 3 * n ≤ 60 := by omega
    have hn100 : 3 * n ≤ 100 := by omega
    by_cases hlt : n < L.length
    · have hlt' : (n : Int) < L.length := by omega
      have hn0 : 0 ≤ (n : Int) := by omega
      have := HLL.out
      omega
    · have hge : ¬ (n : Int) < L.length := by omega
      have he := hid (ends_any ah m p q c HOK.out Ha B _ 100 (by omega) ha.out hma.out N1.out.1 N1.out.2.1 N1.out.2.2 ht.out.fit ht.out.row.wd)
      obtain ⟨dn0, fn0⟩ := ht.out.ends CT.out hn100
      have DN := hid dn0
      have FN := hid fn0
      clear dn0 fn0
      go_wp2_with fail
      refine he.out.mono ?_
      rintro e wa ⟨rfl, u1, u2, u3⟩
      have fA := hid u1
      have fM := hid u2
      have fG := hid (Gr.step hg.out u3 T1.out)
      clear u1 u2 u3 he
      generalize (endsf c 100 Ha B).2.1 = H9 at *
      generalize (endsf c 100 Ha B).2.2 = B9 at *
      generalize (endsf c 100 Ha B).1 = n9 at *
      have CZ9 := hid (BZ.out.gr fG.out)
      have z0 := CZ9.out.cell (i := 0) rfl
      have nd := hid (at_T69 (HK.out.gr (Gr.trans G1.out fG.out) : Kd.C k69 wa (some b0) ns.length ns) (k : Int) hk0 hkl')
      obtain ⟨ad, e, c0, c1, c2, c3, c4⟩ := nd.out
      cases e
      rw [← HT.out] at c2
      simp only [Int.toNat_natCast] at c2
      clear c0 c1 c3 c4
      go_wp2_with fail
      clear z0 c2
      go_loopw [98] (fun i wr => ∃ (j : Nat) (B' : Bk), j ≤ T ∧ i = .int .i64 (j : Int) ∧ IsHelp wr ah H9 ∧ IsMem wr m p q c B' ∧ Fin c h T B' ∧ Gr w1 wr) (fun i _ => T - (intOf i).toNat)
      case atStart => exact ⟨0, B9, Nat.zero_le _, rfl, fA.out, fM.out, FN.out, fG.out⟩
      case round =>
        obtain ⟨j, B', hj, rfl, ga, gm, gf, gg⟩ := hrel
        have ga := hid ga
        have gm := hid gm
        have gf := hid gf
        have gg := hid gg
        by_cases hjt : j < T
        · have hjt' : (j : Int) < T := by omega
          have ho := lev_load CT.out gf.out.row hjt (hPl h)
          have ha := gf.out.all j hjt
          have hw6 : wrap64 (6 + (j : Int)) = 6 + (j : Int) := w64 (by omega) (by have := CT.out.t1; have := HOK.out.2.2.2.2.2.2.2.1; omega)
          have hld0 := mload_any m p q c B' h (6 + (j : Int)) hh wr gm.out
          rw [ho] at hld0
          rw [← hw6] at hld0
          have hld := hid hld0
          have hmk0 := marked_any (B'.cells.getD (lc c h j) 0) (getD_u64 gf.out.row.wd _)
          rw [ha] at hmk0
          have hmk := hid hmk0
          have gf2 := hid (gf.out.load (c.cel (hI h) (wrap64 (6 + (j : Int)))) (hPl h))
          clear ho ha hw6 hld0 hmk0
          go_wp2_with fail
          refine hld.out.mono ?_
          rintro e wb ⟨rfl, v1, v2⟩
          have iM := hid (⟨gm.out.mem.chg v2 (fun k => k.elim gm.out.nmp gm.out.nmq), v1, gm.out.nmp, gm.out.nmq⟩ : IsMem wb m p q c _)
          have iA := hid (Blk.chg ga.out v2 (fun k => (T2.out _ k).2 rfl))
          have iG := hid (Gr.step gg.out v2 (fun k hk => (T2.out k hk).1))
          clear v1 v2
          go_wp2_with fail
          refine (hmk.out _).mono ?_
          rintro e wc ⟨rfl, rfl⟩
          go_wp2_with fail
          go_roundw
          case rel => exact ⟨j + 1, _, hjt, lev_num hjt HT6.out, iA.out, iM.out, gf2.out, iG.out⟩
          case measure => exact lev_meas hjt HT6.out
        · have hge : ¬ (j : Int) < T := by omega
          go_wp2_with fail
          refine (halive _).mono ?_
          rintro e u8 ⟨rfl, g8⟩
          have hdn := hid (hdone_yes ah H9 u8 (Blk.gr ga.out g8) DN.out)
          go_wp2_with fail
          refine hdn.out.mono ?_
          rintro e u9 ⟨rfl, rfl⟩
          go_wp2_with fail
          go_ret
          exact ⟨rfl, Gr.trans G1.out (Gr.trans gg.out g8)⟩

theorem of_hk {k : Nat} (hk : k < 64) : U64 (9223372036854775808 + ((k : Int) + 1)) ∧ hI (9223372036854775808 + ((k : Int) + 1)) = (k : Int) + 1 ∧
    ∀ w, Calls Try.prog 40 #[.int .i64 (wrap64 ((k : Int) + 1)), .int .i64 0] w fun e w' => e = .returned (.int .u64 (9223372036854775808 + ((k : Int) + 1))) ∧ Gr w w' := by
  have hx1 : (k : Int) + 1 ≤ 64 := by omega
  have hx0 : 1 ≤ (k : Int) + 1 := by omega
  rw [w64 (x := (k : Int) + 1) (by omega) (by omega)]
  generalize (k : Int) + 1 = x at *
  refine ⟨⟨by omega, by omega⟩, by unfold hI; omega, fun w => (stepstoneref01_Of.calls 3 x 0 (9223372036854775808 + x) w ?_).mono fun e w' hq => ⟨hq.1, hq.2.below⟩⟩
  unfold stepstoneref01_Of.f stepstoneref01_Pack.f
  rw [if_neg (by omega), if_neg (by omega), if_neg (by omega)]
  simp only [stepstoneref01_Pack.j0]
  have e : IntKind.u64.wrap ((IntKind.u64.wrap (9223372036854775808 + (IntKind.u64.wrap (4294967296 * (IntKind.u64.wrap 0))))) + (IntKind.u64.wrap x)) = 9223372036854775808 + x := by
    have w : ∀ x : Int, IntKind.u64.wrap x = x % 18446744073709551616 := fun x => rfl
    simp only [w]; omega
  simp [e]

/-- Which node is deleted, and what is written. -/
def Losts (w : World) (v : Value) (T : Int × List Int) : Prop := ∃ s, v = .agg #[.int .i64 T.1, s] ∧ Words w s T.2 ∧ ∀ x ∈ T.2, U64 x
section
open Go.ChangeShapes Go.WideShapes Go.ChangeAt Go.Joins Go.Deep
set_option maxRecDepth 100000 in
theorem open_lost {H : Type} {enc : TypeId × Value → H} {w : World} {base b0 : Nat} {held : Bool} {r : Reach} {v : Value} {d : DataW H} {p : List MemPlace}
    (hv : Value.okWide Try.prog w r b0 74 v) (h : DataW.Trod enc Try.prog w base (fun _ => true) held 74 v d p) : ∃ T : Int × List Int, Losts w v T := by
  obtain ⟨cs, rfl, hl, hg⟩ := open_struct Try.underlying74 (by kernel_rfl) (by kernel_rfl) hv h
  have hl2 : cs.length = 2 := hl
  match cs, hl2 with
  | [c0, c1], _ =>
    obtain ⟨x, rfl, hx⟩ := leaf_int Try.underlying3 (hg 0 _ c0 rfl rfl)
    obtain ⟨m, y, hm⟩ := hg 1 _ c1 rfl rfl
    rcases open_ints Try.underlying39 Try.underlying40 (by kernel_rfl) hm with ⟨hcs, _⟩ | ⟨a, len, cap, zs, hcs, _, hlc, _, hz, _, hcell, hwz⟩
    · simp only [List.cons.injEq, and_true] at hcs
      exact ⟨(x, []), c1, rfl, .inl ⟨hcs, rfl⟩, by simp⟩
    · simp only [List.cons.injEq, and_true] at hcs
      simp only [if_true] at hz
      have hlen : (zs.take len).length = len := by simp [List.length_take]; omega
      refine ⟨(x, zs.take len), c1, rfl, .inr ⟨a, cap, by rw [hlen]; exact hcs, by rw [hlen]; omega, fun i hi => ?_⟩, fun x hx => u64_of (hwz x (List.mem_of_mem_take hx))⟩
      simp only [hlen] at hi
      rw [hcell i (by omega)]
      simp [List.getD, List.getElem?_take, hi]
end
theorem helpLost_at {w : World} (a b c d e f g : Int) (v : Value) (ns : List S69) (hn : Nodes w v ns) (z : Value) (T : Int × List Int) (ht : Losts w z T) :
    Calls Try.prog 12 #[.agg #[.int .i64 a, .int .i64 b, .int .i64 c, .int .i64 d, .int .i64 e, .int .i64 f, .int .i64 g], v, z] w fun e w' => e = .returned (.bool true) ∧ Gr w w' := by
  obtain ⟨s, rfl, hw, hu⟩ := ht
  obtain ⟨A1, cap1, rfl, hc1, hlen, hk, F⟩ := hn
  obtain ⟨A, capL, rfl, hA⟩ : ∃ (A : Option Addr) (capL : Nat), s = .slice A T.2.length capL ∧ ((A = none ∧ T.2.length = 0) ∨ ∃ a0, A = some a0 ∧ ∀ i, i < T.2.length → w.cell? (a0.add i) = some (.int .u64 (T.2.getD i 0))) := by
    rcases hw with ⟨rfl, e⟩ | ⟨a0, cap, rfl, _, hL⟩
    · exact ⟨none, 0, by rw [e]; rfl, .inl ⟨rfl, by rw [e]; rfl⟩⟩
    · exact ⟨some a0, cap, rfl, .inr ⟨a0, rfl, hL⟩⟩
  obtain ⟨r, hb, hrc⟩ := right_call (Cf.mk a b c d e f g) ns hlen
  cases r
  · exact lost_wrong (Cf.mk a b c d e f g) ns A1 cap1 T.1 A T.2 capL w hk hc1 hrc
  · have N := hb rfl
    by_cases hlong : 20 < T.2.length
    · exact lost_long (Cf.mk a b c d e f g) ns A1 cap1 T.1 A T.2 capL w hk hc1 hrc hlong
    · by_cases hneg : T.1 < 0
      · exact lost_neg (Cf.mk a b c d e f g) ns A1 cap1 T.1 A T.2 capL w hk hc1 hrc hlong hneg
      · by_cases hov : (ns.length : Int) ≤ T.1
        · exact lost_over (Cf.mk a b c d e f g) ns A1 cap1 T.1 A T.2 capL w hk hc1 hrc hlong hneg hov
        · obtain ⟨k, ek⟩ := Int.eq_ofNat_of_zero_le (by omega : 0 ≤ T.1)
          rw [ek]
          have hr := N.room
          have hcp := N.ok.2.2.2.2.2.1
          obtain ⟨h1, h2, h3⟩ := of_hk (k := k) (by omega)
          obtain ⟨b0, rfl, _⟩ := hk.2.2 (by omega)
          rcases hA with ⟨rfl, h0⟩ | ⟨a0, rfl, hL⟩
          · exact lost_main_none (Cf.mk a b c d e f g) ns b0 cap1 k T.2 capL w hk hc1 hrc hlong N F (by omega) _ h1 h2 h3 hu h0
          · exact lost_main_some (Cf.mk a b c d e f g) ns b0 cap1 k a0 T.2 capL w hk hc1 hrc hlong N F (by omega) _ h1 h2 h3 hu hL
end Go.Proofs.YthbkncklliiooaaH
