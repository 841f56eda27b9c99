/-
  The small world of the statements of the layer help: a node of two levels is deleted.
-/
import Derived.Test.YthbkncklliiooaaHo
import Derived.Test.YthbkncklliiooaaHt
import Derived.Test.YthbkncklliiooaaQx23
namespace Go.Proofs.YthbkncklliiooaaH
set_option linter.unusedVariables false
set_option linter.unusedSimpArgs false
open Go.RowKit Go.Proofs.YthbkncklliiooaaW.PrintWords Go.Proofs.YthbkncklliiooaaW.PrintLast Go.Proofs.YthbkncklliiooaaW.PrintMore Go.Proofs.Ythbkncklliiooaa.Q

def cSmall : Cf := ⟨1, 1, 1, 2, 1, 1, 9⟩
def hOne : Int := 9223372036854775809
def nSmall : S69 := ⟨1, 0, 2, 0, true⟩
def lSmall : List Int := [1, 0, 1, 0, 0, 0, 2, 0, 9223372036854775809, 9223372036854775809, 1, 1, 1, 1, 2, 1, 0, 0]

theorem lay_small : stepstoneref11_Lay.f 40 1 1 1 2 1 1 9 [nSmall] = some lSmall := by decide +kernel
theorem of_small : stepstoneref01_Of.f 3 1 0 = some hOne := by decide +kernel
theorem ends_small : (endsf cSmall 20 (HS.new hOne) ⟨lSmall, 0, Acc.zero⟩).1 = 5 := by decide +kernel
theorem ends_small2 : (endsf cSmall 20 (HS.new hOne) (endsf cSmall 20 (HS.new hOne) ⟨lSmall, 0, Acc.zero⟩).2.2).1 = 3 := by decide +kernel
def bSmall : Bk := (endsf cSmall 20 (HS.new hOne) (endsf cSmall 20 (HS.new hOne) ⟨lSmall, 0, Acc.zero⟩).2.2).2.2
theorem mark_small : hM (bSmall.load (cSmall.cel (hI hOne) 6) (hPl hOne)).last.old = true := by decide +kernel
theorem mark_small2 : hM ((bSmall.load (cSmall.cel (hI hOne) 6) (hPl hOne)).load (cSmall.cel (hI hOne) 7) (hPl hOne)).last.old = true := by decide +kernel

theorem small_ok : cSmall.Ok := by decide
theorem small_cells : (lSmall.length : Int) = cSmall.cells := by decide
theorem one_u64 : U64 hOne := by unfold hOne; exact ⟨by omega, by omega⟩

/-- A row of nodes that was made. -/
theorem c_nodes {w : World} {b : Nat} (hb : Blk w b #[.int .u64 1, .int .u64 0, .int .i64 2, .int .i64 0, .bool true] 69) : Kd.C k69 w (some ⟨b, 0, none⟩) [nSmall].length [nSmall] := by
  refine ⟨rfl, by simp, fun _ => ⟨_, rfl, fun j p hp => ?_⟩⟩
  have hj : j = 0 := by
    have := (List.getElem?_eq_some_iff.1 hp).1
    simpa using this
  subst hj
  have hp' : p = nSmall := by simpa using hp.symm
  subst hp'
  refine ⟨[.int .u64 1, .int .u64 0, .int .i64 2, .int .i64 0, .bool true], rfl, k69_mk w nSmall, fun i u hu => ?_⟩
  have hi : i < 5 := by
    have := (List.getElem?_eq_some_iff.1 hu).1
    simpa using this
  have e : w.cell? ⟨b, i, none⟩ = some u := hb.cell (by simpa using hu)
  by_cases h0 : i = 0
  · subst h0; simpa [Addr.add] using e
  · simpa [Addr.add, h0] using e

theorem lay_call (A : Option Addr) (w : World) (hk : Kd.C k69 w A [nSmall].length [nSmall]) (n : Nat) (hn : 1 ≤ n) :
    Calls Try.prog 38 #[.agg #[.int .i64 1, .int .i64 1, .int .i64 1, .int .i64 2, .int .i64 1, .int .i64 1, .int .i64 9], .slice A 1 n] w fun e w' => ∃ v, e = .returned v ∧ Words w' v lSmall ∧ Gr w w' := by
  refine (stepstoneref11_Lay.calls 40 1 1 1 2 1 1 9 A n [nSmall] lSmall w hk hn lay_small).mono ?_
  rintro e w' ⟨v, rfl, hr, hb⟩
  obtain ⟨q, cap, rfl, _, _, hw⟩ := row_words hr (by decide)
  exact ⟨_, rfl, hw, hb⟩

theorem ends_fw {c : Cf} (hc : c.Ok) (k : Nat) {H : HS} {B : Bk} (hF : H.Fit) (hB : B.Wd) : (endsf c k H B).2.1.Fit ∧ (endsf c k H B).2.2.Wd :=
  ends_pres (fun H B => H.Fit ∧ B.Wd) (fun _ _ h => ⟨step_fit c hc h.1 h.2, step_wd c h.1 h.2⟩) k H B ⟨hF, hB⟩

theorem wd_small0 : (⟨lSmall, 0, Acc.zero⟩ : Bk).Wd := by unfold Bk.Wd U64 lSmall; decide
theorem wd_small1 : (endsf cSmall 20 (HS.new hOne) ⟨lSmall, 0, Acc.zero⟩).2.2.Wd := (ends_fw small_ok 20 (new_fit one_u64) wd_small0).2
theorem wd_small : bSmall.Wd := (ends_fw small_ok 20 (new_fit one_u64) wd_small1).2

theorem ends_one (a m p q : Nat) (w : World) (hH : IsHelp w a (HS.new hOne)) (hm : IsMem w m p q cSmall ⟨lSmall, 0, Acc.zero⟩) (h1 : a ≠ m) (h2 : a ≠ p) (h3 : a ≠ q) :
    Calls Try.prog 32 #[.pointer (some ⟨a, 0, none⟩), .pointer (some ⟨m, 0, none⟩), .int .i64 20] w fun e w' => e = .returned (.int .i64 5) ∧ IsHelp w' a (endsf cSmall 20 (HS.new hOne) ⟨lSmall, 0, Acc.zero⟩).2.1 ∧ IsMem w' m p q cSmall (endsf cSmall 20 (HS.new hOne) ⟨lSmall, 0, Acc.zero⟩).2.2 ∧ Chg (Tri a p q) w w' := by
  have := ends_any a m p q cSmall small_ok (HS.new hOne) ⟨lSmall, 0, Acc.zero⟩ w 20 (by omega) hH hm h1 h2 h3 (new_fit one_u64) wd_small0
  rw [ends_small] at this
  exact this
theorem ends_two (a m p q : Nat) (w : World) (hH : IsHelp w a (HS.new hOne)) (hm : IsMem w m p q cSmall (endsf cSmall 20 (HS.new hOne) ⟨lSmall, 0, Acc.zero⟩).2.2) (h1 : a ≠ m) (h2 : a ≠ p) (h3 : a ≠ q) :
    Calls Try.prog 32 #[.pointer (some ⟨a, 0, none⟩), .pointer (some ⟨m, 0, none⟩), .int .i64 20] w fun e w' => e = .returned (.int .i64 3) ∧ IsHelp w' a (endsf cSmall 20 (HS.new hOne) (endsf cSmall 20 (HS.new hOne) ⟨lSmall, 0, Acc.zero⟩).2.2).2.1 ∧ IsMem w' m p q cSmall bSmall ∧ Chg (Tri a p q) w w' := by
  have := ends_any a m p q cSmall small_ok (HS.new hOne) (endsf cSmall 20 (HS.new hOne) ⟨lSmall, 0, Acc.zero⟩).2.2 w 20 (by omega) hH hm h1 h2 h3 (new_fit one_u64) wd_small1
  rw [ends_small2] at this
  exact this

set_option maxRecDepth 100000 in
set_option maxHeartbeats 4000000 in
theorem halive (w : World) : Calls Try.prog 30 #[] w fun e w' => e = .returned (.bool true) ∧ Gr w w' := by
  have hLay := hid lay_call
  have hOf := hid (fun v w hv => mof_any cSmall small_ok v lSmall w hv small_cells)
  have hE1 := hid ends_one
  have hE2 := hid ends_two
  have hMk1 := hid (fun w => (marked_any _ (load_old_u64 wd_small (cSmall.cel (hI hOne) 6) (hPl hOne)) w).mono fun e w' h => (⟨by rw [h.1, mark_small], h.2⟩ : e = .returned (.bool true) ∧ w = w'))
  have hMk2 := hid (fun w => (marked_any _ (load_old_u64 (wd_load wd_small (cSmall.cel (hI hOne) 6) (hPl hOne)) (cSmall.cel (hI hOne) 7) (hPl hOne)) w).mono fun e w' h => (⟨by rw [h.1, mark_small2], h.2⟩ : e = .returned (.bool true) ∧ w = w'))
  have hOne' := hid (fun w => stepstoneref01_Of.calls 3 1 0 hOne w of_small)
  go_enter Try.func30, Try.ntmps30
  go_wp2_with fail
  have X : Blk (w.alloc (.cells #[.int .i64 1, .int .i64 1, .int .i64 1, .int .i64 2, .int .i64 1, .int .i64 1, .int .i64 9] 23)) w.heap.size #[.int .i64 1, .int .i64 1, .int .i64 1, .int .i64 2, .int .i64 1, .int .i64 1, .int .i64 9] 23 := Blk.new _ _ _
  have G0 := hid ((Gr.refl w).alloc (.cells #[.int .i64 1, .int .i64 1, .int .i64 1, .int .i64 2, .int .i64 1, .int .i64 1, .int .i64 9] 23))
  generalize (w.alloc (.cells #[.int .i64 1, .int .i64 1, .int .i64 1, .int .i64 2, .int .i64 1, .int .i64 1, .int .i64 9] 23)) = w1 at *
  have AX := hid X
  clear X
  refine wp_region_anyC (n := 11) (Gr w1) (by kernel_rfl) rfl ?_
  refine anyC_quiet (a1 := ?a1) (by kernel_rfl) 8 [0, 1, 2] _ _ _ (by kernel_rfl) (by kernel_rfl) (Gr.refl w1).drew ?_ ?_
  rotate_left
  · intro w' g'
    have hne : Nonempty (St (· = w')) := ⟨⟨w', rfl⟩⟩
    have X3 := AX.out.gr g'
    have y0 : ∀ s : St (· = w'), s.val.cell? ⟨w.heap.size, 0, none⟩ = some (.int .i64 1) := fun s => by rw [s.ok]; exact X3.cell rfl
    have y1 : ∀ s : St (· = w'), s.val.cell? ⟨w.heap.size, 1, none⟩ = some (.int .i64 1) := fun s => by rw [s.ok]; exact X3.cell rfl
    have y2 : ∀ s : St (· = w'), s.val.cell? ⟨w.heap.size, 2, none⟩ = some (.int .i64 1) := fun s => by rw [s.ok]; exact X3.cell rfl
    have y3 : ∀ s : St (· = w'), s.val.cell? ⟨w.heap.size, 3, none⟩ = some (.int .i64 2) := fun s => by rw [s.ok]; exact X3.cell rfl
    have y4 : ∀ s : St (· = w'), s.val.cell? ⟨w.heap.size, 4, none⟩ = some (.int .i64 1) := fun s => by rw [s.ok]; exact X3.cell rfl
    have y5 : ∀ s : St (· = w'), s.val.cell? ⟨w.heap.size, 5, none⟩ = some (.int .i64 1) := fun s => by rw [s.ok]; exact X3.cell rfl
    have y6 : ∀ s : St (· = w'), s.val.cell? ⟨w.heap.size, 6, none⟩ = some (.int .i64 9) := fun s => by rw [s.ok]; exact X3.cell rfl
    clear X3 g'
    conv => arg 5; simp only [picked, List.filterMap_cons, List.filterMap_nil, List.getElem?_toArray, List.getElem?_cons_zero, List.getElem?_cons_succ]
    show wpQuiet _ _ _ _ [_, _, _] _
    repeat (go_big_quiet_step (fail))
    refine wpQuiet_nil ?_
    rfl
  refine anyC_alone 3 (Gr.refl w1).drew (by kernel_rfl) (by kernel_rfl) ?_
  conv => arg 4; simp only [picked, List.filterMap_cons, List.filterMap_nil, List.getElem?_toArray, List.getElem?_cons_zero, List.getElem?_cons_succ]
  show wpList _ _ _ [_] _ _
  go_wp2_with fail
  have C2 := hid (((Gr.refl w1).alloc (.cells #[.int .u64 1, .int .u64 0, .int .i64 2, .int .i64 0, .bool true] 69)).drew)
  have K2 := hid (c_nodes (Blk.drew (Blk.new w1 #[.int .u64 1, .int .u64 0, .int .i64 2, .int .i64 0, .bool true] 69)))
  generalize (w1.alloc (.cells #[.int .u64 1, .int .u64 0, .int .i64 2, .int .i64 0, .bool true] 69)).drew = w2 at *
  refine ⟨C2.out, ?_⟩
  refine anyC_alone 4 C2.out (by kernel_rfl) (by kernel_rfl) ?_
  conv => arg 4; simp only [picked, List.filterMap_cons, List.filterMap_nil, List.getElem?_toArray, List.getElem?_cons_zero, List.getElem?_cons_succ]
  show wpList _ _ _ [_] _ _
  go_wp2_with fail
  refine (hLay.out _ w2 K2.out 1 (Nat.le_refl _)).mono ?_
  rintro e w3 ⟨v, rfl, hw3, g3⟩
  have W3 := hid hw3
  have C3 := hid (Gr.trans C2.out g3)
  clear hw3 g3
  go_wp2_with fail
  refine ⟨C3.out, ?_⟩
  refine anyC_alone 5 C3.out (by kernel_rfl) (by kernel_rfl) ?_
  conv => arg 4; simp only [picked, List.filterMap_cons, List.filterMap_nil, List.getElem?_toArray, List.getElem?_cons_zero, List.getElem?_cons_succ]
  show wpList _ _ _ [_] _ _
  go_wp2_with fail
  refine (hOf.out v w3 W3.out).mono ?_
  rintro e w4 ⟨m, p, q, rfl, hm4, g4, sm, sp, sq⟩
  have M4 := hid hm4
  have C4 := hid (Gr.trans C3.out g4)
  clear g4 hm4
  go_wp2_with fail
  refine ⟨C4.out, ?_⟩
  refine anyC_quiet (a1 := ?a2) (by kernel_rfl) 0 [6, 7, 8, 9, 10] _ _ _ (by kernel_rfl) (by kernel_rfl) C4.out ?_ ?_
  rotate_left
  · intro w' g'
    have hne : Nonempty (St (· = w')) := ⟨⟨w', rfl⟩⟩
    clear g'
    conv => arg 5; simp only [picked, List.filterMap_cons, List.filterMap_nil, List.getElem?_toArray, List.getElem?_cons_zero, List.getElem?_cons_succ]
    show wpQuiet _ _ _ _ [_, _, _, _, _] _
    repeat (go_big_quiet_step (fail))
    refine wpQuiet_nil ?_
    rfl
  refine ⟨by kernel_rfl, ?_⟩
  go_wp2_with fail
  refine (hOne'.out _).mono ?_
  rintro e w5 ⟨rfl, g5⟩
  have C5 := hid (Gr.trans C4.out (by first | exact g5 | exact g5.below) : Gr w1 w5)
  have M5 := hid (M4.out.gr (by first | exact g5 | exact g5.below))
  have s5 : w4.heap.size ≤ w5.heap.size := (show Gr w4 w5 by first | exact g5 | exact g5.below).size
  have mlt : m < w4.heap.size := M4.out.mem.lt
  have plt : p < w4.heap.size := M4.out.bank.head.lt
  have qlt : q < w4.heap.size := M4.out.bank.row.lt
  clear g5
  go_wp2_with fail
  refine (hnew_any hOne _).mono ?_
  rintro e w6 ⟨rfl, rfl⟩
  go_wp2_with fail
  refine (hnew_any hOne _).mono ?_
  rintro e w7 ⟨rfl, rfl⟩
  have A1 := hid ((Blk.new w5 (helpRow (HS.new hOne)) 98).alloc (.cells (helpRow (HS.new hOne)) 98))
  have A2 : Hid (Blk ((w5.alloc (.cells (helpRow (HS.new hOne)) 98)).alloc (.cells (helpRow (HS.new hOne)) 98)) (w5.heap.size + 1) (helpRow (HS.new hOne)) 98) := hid (Blk.new' (by simp))
  have M7 := hid (M5.out.gr (((Gr.refl w5).alloc (.cells (helpRow (HS.new hOne)) 98)).alloc (.cells (helpRow (HS.new hOne)) 98)))
  have C7 := hid ((C5.out.alloc (.cells (helpRow (HS.new hOne)) 98)).alloc (.cells (helpRow (HS.new hOne)) 98))
  have hsz : (w5.alloc (.cells (helpRow (HS.new hOne)) 98)).heap.size = w5.heap.size + 1 := by simp
  rw [hsz]
  clear hsz
  generalize ((w5.alloc (.cells (helpRow (HS.new hOne)) 98)).alloc (.cells (helpRow (HS.new hOne)) 98)) = w7 at *
  have hbk := hid (mbank_any m p q cSmall ⟨lSmall, 0, Acc.zero⟩ w7 M7.out)
  go_wp2_with fail
  refine hbk.out.mono ?_
  rintro e w8 ⟨rfl, rfl⟩
  go_wp2_with fail
  refine (hE1.out _ m p q w7 A1.out M7.out (by omega) (by omega) (by omega)).mono ?_
  rintro e w8 ⟨rfl, _, hm8, g8⟩
  have A8 := hid (Blk.chg A2.out g8 (by unfold Tri; omega))
  have M8 := hid hm8
  have C8 := hid (Gr.step C7.out g8 (by unfold Tri; have := C5.out.size; have := C4.out.size; have := C3.out.size; intro k hk; rcases hk with h | h | h <;> omega))
  clear hm8 g8
  go_wp2_with fail
  refine (hE2.out _ m p q w8 A8.out M8.out (by omega) (by omega) (by omega)).mono ?_
  rintro e w9 ⟨rfl, _, hm9, g9⟩
  have M9 := hid hm9
  have C9 := hid (Gr.step C8.out g9 (by unfold Tri; have := C5.out.size; have := C4.out.size; have := C3.out.size; intro k hk; rcases hk with h | h | h <;> omega))
  clear hm9 g9
  have hL1 := hid (mload_any m p q cSmall bSmall hOne 6 one_u64 w9 M9.out)
  go_wp2_with fail
  refine hL1.out.mono ?_
  rintro e wa ⟨rfl, hba, ga⟩
  have Ma := hid (⟨M9.out.mem.chg ga (by unfold Two; have := M9.out.nmp; have := M9.out.nmq; omega), hba, M9.out.nmp, M9.out.nmq⟩ : IsMem wa m p q cSmall (bSmall.load (cSmall.cel (hI hOne) 6) (hPl hOne)))
  have Ca := hid (Gr.step C9.out ga (by unfold Two; have := C5.out.size; have := C4.out.size; have := C3.out.size; intro k hk; rcases hk with h | h <;> omega))
  clear hba ga
  go_wp2_with fail
  refine (hMk1.out _).mono ?_
  rintro e wb ⟨rfl, rfl⟩
  have hL2 := hid (mload_any m p q cSmall (bSmall.load (cSmall.cel (hI hOne) 6) (hPl hOne)) hOne 7 one_u64 wa Ma.out)
  go_wp2_with fail
  refine hL2.out.mono ?_
  rintro e wc ⟨rfl, hbc, gc⟩
  have Cc := hid (Gr.step Ca.out gc (by unfold Two; have := C5.out.size; have := C4.out.size; have := C3.out.size; intro k hk; rcases hk with h | h <;> omega))
  clear hbc gc
  go_wp2_with fail
  refine (hMk2.out _).mono ?_
  rintro e wd ⟨rfl, rfl⟩
  go_wp2_with fail
  go_ret
  exact ⟨rfl, Gr.trans G0.out Cc.out⟩
end Go.Proofs.YthbkncklliiooaaH

namespace Go.Proofs.YthbkncklliiooaaH
set_option linter.unusedVariables false
set_option linter.unusedSimpArgs false
open Go.RowKit Go.Proofs.YthbkncklliiooaaW.PrintWords Go.Proofs.YthbkncklliiooaaW.PrintLast Go.Proofs.YthbkncklliiooaaW.PrintMore

/-- The node's setting in a row of words. -/
theorem ctx_of {c : Cf} {h : Int} {l : List Int} (hth : There c l) (hh : U64 h) (hi : hI h ≤ c.cp) (hu : ∀ x ∈ l, U64 x) :
    ∃ T : Nat, Ctx c h T ∧ Row c h T l ∧ (T : Int) = topLv c (l.getD (tc c h) 0) + 1 := by
  obtain ⟨t0, t1⟩ := topLv_bounds c hth.1 (l.getD (tc c h) 0)
  obtain ⟨T, hT⟩ := Int.eq_ofNat_of_zero_le (by omega : 0 ≤ topLv c (l.getD (tc c h) 0) + 1)
  refine ⟨T, ⟨hth.1, ?_, hi, by omega, by omega⟩, ⟨hth.2.1, hu, hT⟩, hT.symm⟩
  unfold hI
  have := hh.1
  omega

theorem top_mx {c : Cf} {n : Int} {T : Nat} (hT : (T : Int) = topLv c n + 1) : mn (mx n 1) c.he = (T : Int) := by
  rw [hT]
  unfold topLv mx mn
  split <;> split <;> omega

end Go.Proofs.YthbkncklliiooaaH
