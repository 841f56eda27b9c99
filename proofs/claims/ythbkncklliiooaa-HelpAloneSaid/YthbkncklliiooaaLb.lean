/-
  HelpAlone: the walk.
-/
import Derived.Test.YthbkncklliiooaaHv
import Derived.Test.YthbkncklliiooaaPuw
import Derived.Test.YthbkncklliiooaaLc
namespace Go.Proofs.YthbkncklliiooaaH
set_option linter.unusedVariables false
set_option linter.unusedSimpArgs false
open Go.RowKit Go.Proofs.YthbkncklliiooaaW.PrintWords Go.Proofs.YthbkncklliiooaaW.PrintLast Go.Proofs.YthbkncklliiooaaW.PrintMore Go.Proofs.Ythbkncklliiooaa.Q
attribute [local go_sem] max2_int min2_int

/-- What a help alone comes to. -/
theorem alone_pure {c : Cf} {h : Int} {l : List Int} {T : Nat} (C : Ctx c h T) (R : Row c h T l) :
    (endsf c 100 (HS.new h) ⟨l, 0, Acc.zero⟩).2.1.st = .done ∧ (endsf c 100 (HS.new h) ⟨l, 0, Acc.zero⟩).1 ≤ 2 * T + 1 ∧ (endsf c 100 (HS.new h) ⟨l, 0, Acc.zero⟩).2.2.count = ((endsf c 100 (HS.new h) ⟨l, 0, Acc.zero⟩).1 : Int) ∧
    (endsf c 100 (HS.new h) ⟨l, 0, Acc.zero⟩).2.2.cells.length = l.length ∧
    ∀ k : Nat, k < l.length → ∀ K A B : Int, c.whr k = (K, A, B) →
      (K = 3 ∧ A = hI h ∧ 6 ≤ B ∧ B < 6 + T → (endsf c 100 (HS.new h) ⟨l, 0, Acc.zero⟩).2.2.cells.getD k 0 = hMk (l.getD k 0)) ∧
      (¬ (K = 3 ∧ A = hI h ∧ 6 ≤ B ∧ B < 6 + T) → (endsf c 100 (HS.new h) ⟨l, 0, Acc.zero⟩).2.2.cells.getD k 0 = l.getD k 0) := by
  have h6 : T ≤ 6 := by have := C.t1; have := C.ok.2.2.2.2.2.2.2.1; omega
  have r := Runs.ends C R (Runs.new C R) 100
  obtain ⟨E, _⟩ := ends_tall C (H := HS.new h) (B := ⟨l, 0, Acc.zero⟩) (k := 100) rfl R (Runs.new C R).inv (by omega) (by show (0 : Int) ≤ 0; omega) (by show (0 : Int) ≤ 1000; omega)
  have hc : (endsf c 100 (HS.new h) ⟨l, 0, Acc.zero⟩).2.2.count = 0 + ((endsf c 100 (HS.new h) ⟨l, 0, Acc.zero⟩).1 : Int) := E.count
  refine ⟨E.done, E.most, by omega, r.kept.1, fun k hk K A B hwh => ?_⟩
  obtain ⟨f1, f2⟩ := kept_fin C r.kept (r.inv.dn E.done) k
  have hlen := R.len
  refine ⟨fun ⟨e1, e2, e3, e4⟩ => f1 ?_, fun hno => f2 ?_⟩
  · obtain ⟨n, hn⟩ := Int.eq_ofNat_of_zero_le (by omega : 0 ≤ B - 6)
    refine ⟨n, by omega, ?_⟩
    have hB : B = 6 + n := by omega
    have hw : c.whr k = c.wh k := if_pos ⟨by omega, by omega⟩
    rw [hw] at hwh
    rcases wh_back c C.ok (n := (k : Int)) (by omega) (by omega) with ⟨_, e⟩ | ⟨a, b, e, _⟩ | ⟨a, b, e, e'⟩
    · rw [e] at hwh; simp only [Prod.mk.injEq] at hwh; omega
    · rw [e] at hwh; simp only [Prod.mk.injEq] at hwh; omega
    · rw [e] at hwh
      simp only [Prod.mk.injEq] at hwh
      obtain ⟨_, rfl, rfl⟩ := hwh
      unfold lc
      rw [← e2, ← hB, e']
      rfl
  · rintro ⟨n, hn, e⟩
    obtain ⟨e1, e2⟩ := C.lv hn
    have hw := whr_cel c (a := hI h) (b := 6 + n) (by omega)
    rw [e1, ← e, hwh] at hw
    simp only [Prod.mk.injEq] at hw
    exact hno ⟨hw.1, hw.2.1, by omega, by omega⟩

set_option maxRecDepth 100000 in
set_option maxHeartbeats 8000000 in
theorem alone_none (c : Cf) (v : Value) (l : List Int) (h : Int) (hh : U64 h) (w : World) (hw : Words w v l) (hno : ¬ There c l) :
    Calls Try.prog 14 #[.agg #[.int .i64 c.th, .int .i64 c.sl, .int .i64 c.cp, .int .i64 c.he, .int .i64 c.ke, .int .i64 c.ev, .int .i64 c.la], v, .int .u64 h] w fun e w' => e = .returned (.bool true) ∧ Gr w w' := by
  have hl := fun w hw => lof_no c v l w hw hno
  unfold Cf.val zeroMem at hl
  have HL := hid hl
  have HW := hid hw
  clear hl hw hno
  go_enter Try.func14, Try.ntmps14
  go_wp2_with fail
  refine (HL.out _ (HW.out.gr ((Gr.refl w).alloc _))).mono ?_
  rintro e w1 ⟨rfl, g1⟩
  have AX := hid (Blk.gr (Blk.new w #[.int .i64 c.th, .int .i64 c.sl, .int .i64 c.cp, .int .i64 c.he, .int .i64 c.ke, .int .i64 c.ev, .int .i64 c.la] 23) g1)
  have G1 := hid (Gr.trans ((Gr.refl w).alloc _) g1)
  clear g1
  go_wp2_with fail
  refine (hnew_any h _).mono ?_
  rintro e w2 ⟨rfl, rfl⟩
  have hix := hid (index_any h hh)
  go_wp2_with fail
  refine (hix.out _).mono ?_
  rintro e w3 ⟨rfl, g3⟩
  have GG := hid (Gr.trans ((G1.out.alloc (.cells #[.int .i64 0, .int .i64 0, .int .i64 0, .int .i64 0, .int .i64 0, .int .i64 0, .int .i64 0, .slice none 0 0, .int .i64 0, .int .i64 0, .int .i64 0, .int .u64 0, .int .u64 0, .int .u64 0, .bool false] 50)).alloc (.cells (helpRow (HS.new h)) 98)) g3)
  clear g3
  go_wp2_with fail
  refine (halive _).mono ?_
  rintro e W3 ⟨rfl, g3⟩
  go_wp2_with fail
  go_ret
  exact ⟨rfl, Gr.trans GG.out g3⟩

set_option maxRecDepth 100000 in
set_option maxHeartbeats 8000000 in
theorem alone_far (c : Cf) (v : Value) (l : List Int) (h : Int) (hh : U64 h) (w : World) (hw : Words w v l) (hth : There c l) (hbig : c.cp < hI h) :
    Calls Try.prog 14 #[.agg #[.int .i64 c.th, .int .i64 c.sl, .int .i64 c.cp, .int .i64 c.he, .int .i64 c.ke, .int .i64 c.ev, .int .i64 c.la], v, .int .u64 h] w fun e w' => e = .returned (.bool true) ∧ Gr w w' := by
  have hd : ¬ hI h ≤ c.cp := by omega
  have hl := fun w hw => lof_yes c v l w hw hth
  unfold Cf.val MadeBoth refMem Acc.zero at hl
  have HL := hid hl
  have HW := hid hw
  have hix := index_any h hh
  have HIX := hid hix
  clear hl hw hix
  go_enter Try.func14, Try.ntmps14
  go_wp2_with fail
  refine (HL.out _ (HW.out.gr ((Gr.refl w).alloc _))).mono ?_
  rintro e w1 ⟨m, p, q, g, cap, rfl, hm, hwr, g1, ⟨sm, sp, sq, sg⟩, hapart, hglt⟩
  have AX := hid (Blk.gr (Blk.new w #[.int .i64 c.th, .int .i64 c.sl, .int .i64 c.cp, .int .i64 c.he, .int .i64 c.ke, .int .i64 c.ev, .int .i64 c.la] 23) g1)
  have G1 := hid (Gr.trans ((Gr.refl w).alloc _) g1)
  have M1 := hid hm
  have SS := hid (⟨sm, sp, sq, sg⟩ : _ ∧ _ ∧ _ ∧ _)
  have mlt : m < w1.heap.size := hm.mem.lt
  have plt : p < w1.heap.size := hm.bank.head.lt
  have qlt : q < w1.heap.size := hm.bank.row.lt
  clear g1 hm hwr sm sp sq sg hapart hglt
  go_wp2_with fail
  refine (hnew_any h _).mono ?_
  rintro e w2 ⟨rfl, rfl⟩
  go_wp2_with fail
  refine (HIX.out _).mono ?_
  rintro e w3 ⟨rfl, g3⟩
  have GG := hid (Gr.trans ((G1.out.alloc (.cells #[.int .i64 c.th, .int .i64 c.sl, .int .i64 c.cp, .int .i64 c.he, .int .i64 c.ke, .int .i64 c.ev, .int .i64 c.la, .slice (some ⟨g, 0, none⟩) l.length cap, .int .i64 0, .int .i64 0, .int .i64 0, .int .u64 0, .int .u64 0, .int .u64 0, .bool false] 50)).alloc (.cells (helpRow (HS.new h)) 98)) g3)
  have AX2 := hid (AX.out.gr (Gr.trans (((Gr.refl w1).alloc (.cells #[.int .i64 c.th, .int .i64 c.sl, .int .i64 c.cp, .int .i64 c.he, .int .i64 c.ke, .int .i64 c.ev, .int .i64 c.la, .slice (some ⟨g, 0, none⟩) l.length cap, .int .i64 0, .int .i64 0, .int .i64 0, .int .u64 0, .int .u64 0, .int .u64 0, .bool false] 50)).alloc (.cells (helpRow (HS.new h)) 98)) g3))
  have M3 := hid (M1.out.gr (Gr.trans (((Gr.refl w1).alloc (.cells #[.int .i64 c.th, .int .i64 c.sl, .int .i64 c.cp, .int .i64 c.he, .int .i64 c.ke, .int .i64 c.ev, .int .i64 c.la, .slice (some ⟨g, 0, none⟩) l.length cap, .int .i64 0, .int .i64 0, .int .i64 0, .int .u64 0, .int .u64 0, .int .u64 0, .bool false] 50)).alloc (.cells (helpRow (HS.new h)) 98)) g3))
  have A1 : Hid (Blk w3 (w1.heap.size + 1) (helpRow (HS.new h)) 98) := hid (Blk.gr (Blk.new' (by simp)) g3)
  clear AX g3
  have AX := hid AX2.out
  clear AX2
  have x0 := AX.out.cell (i := 0) rfl
  have x1 := AX.out.cell (i := 1) rfl
  have x2 := AX.out.cell (i := 2) rfl
  have x3 := AX.out.cell (i := 3) rfl
  have x4 := AX.out.cell (i := 4) rfl
  have x5 := AX.out.cell (i := 5) rfl
  have x6 := AX.out.cell (i := 6) rfl
  go_wp2_with fail
  refine (halive _).mono ?_
  rintro e W3 ⟨rfl, g3⟩
  go_wp2_with fail
  go_ret
  exact ⟨rfl, Gr.trans GG.out g3⟩

set_option maxRecDepth 100000 in
set_option maxHeartbeats 8000000 in
theorem alone_main (c : Cf) (v : Value) (l : List Int) (h : Int) (hh : U64 h) (w : World) (hw : Words w v l) (hth : There c l) (hi : hI h ≤ c.cp) (hu : ∀ x ∈ l, U64 x) :
    Calls Try.prog 14 #[.agg #[.int .i64 c.th, .int .i64 c.sl, .int .i64 c.cp, .int .i64 c.he, .int .i64 c.ke, .int .i64 c.ev, .int .i64 c.la], v, .int .u64 h] w fun e w' => e = .returned (.bool true) ∧ Gr w w' := by
  obtain ⟨T, C, R, hT⟩ := ctx_of hth hh hi hu
  have hi0 := C.i0
  have hcp : c.cp ≤ 64 := hth.1.2.2.2.2.2.1
  obtain ⟨p1, p2, p3, p4, p5⟩ := alone_pure C R
  obtain ⟨tl1, tl2⟩ := C.tl
  have hmn := top_mx hT
  have hok := hth.1
  have he1 : 1 ≤ c.he := hok.2.2.2.2.2.2.1
  have he2 : c.he ≤ 6 := hok.2.2.2.2.2.2.2.1
  have hT1 := C.t0
  have hT2 := C.t1
  have hlen := hth.2.1
  have hl4 := hth.2.2
  have W1 := hid (show (⟨l, 0, Acc.zero⟩ : Bk).Wd from hu)
  have F1 := hid (new_fit hh)
  have P1 := hid p1
  have P2 := hid p2
  have P3 := hid p3
  have P4 := hid p4
  have P5 := hid p5
  have TL1 := hid tl1
  have HMN := hid hmn
  have HLEN := hid hlen
  have HOK := hid hok
  have HT := hid hT
  have HU := hid hu
  have HV := hid hw
  clear C R p1 p2 p3 p4 p5 tl1 hmn hlen hok hT hu
  have hl := fun w hw => lof_yes c v l w hw hth
  unfold Cf.val MadeBoth refMem Acc.zero at hl
  have HL := hid hl
  have HW := hid hw
  have hix := index_any h hh
  have HIX := hid hix
  clear hl hw hix
  go_enter Try.func14, Try.ntmps14
  go_wp2_with fail
  refine (HL.out _ (HW.out.gr ((Gr.refl w).alloc _))).mono ?_
  rintro e w1 ⟨m, p, q, g, cap, rfl, hm, hwr, g1, ⟨sm, sp, sq, sg⟩, hapart, hglt⟩
  have AX := hid (Blk.gr (Blk.new w #[.int .i64 c.th, .int .i64 c.sl, .int .i64 c.cp, .int .i64 c.he, .int .i64 c.ke, .int .i64 c.ev, .int .i64 c.la] 23) g1)
  have G1 := hid (Gr.trans ((Gr.refl w).alloc _) g1)
  have M1 := hid hm
  have SS := hid (⟨sm, sp, sq, sg⟩ : _ ∧ _ ∧ _ ∧ _)
  have mlt : m < w1.heap.size := hm.mem.lt
  have plt : p < w1.heap.size := hm.bank.head.lt
  have qlt : q < w1.heap.size := hm.bank.row.lt
  clear g1 hm hwr sm sp sq sg hapart hglt
  go_wp2_with fail
  refine (hnew_any h _).mono ?_
  rintro e w2 ⟨rfl, rfl⟩
  go_wp2_with fail
  refine (HIX.out _).mono ?_
  rintro e w3 ⟨rfl, g3⟩
  have GG := hid (Gr.trans ((G1.out.alloc (.cells #[.int .i64 c.th, .int .i64 c.sl, .int .i64 c.cp, .int .i64 c.he, .int .i64 c.ke, .int .i64 c.ev, .int .i64 c.la, .slice (some ⟨g, 0, none⟩) l.length cap, .int .i64 0, .int .i64 0, .int .i64 0, .int .u64 0, .int .u64 0, .int .u64 0, .bool false] 50)).alloc (.cells (helpRow (HS.new h)) 98)) g3)
  have AX2 := hid (AX.out.gr (Gr.trans (((Gr.refl w1).alloc (.cells #[.int .i64 c.th, .int .i64 c.sl, .int .i64 c.cp, .int .i64 c.he, .int .i64 c.ke, .int .i64 c.ev, .int .i64 c.la, .slice (some ⟨g, 0, none⟩) l.length cap, .int .i64 0, .int .i64 0, .int .i64 0, .int .u64 0, .int .u64 0, .int .u64 0, .bool false] 50)).alloc (.cells (helpRow (HS.new h)) 98)) g3))
  have M3 := hid (M1.out.gr (Gr.trans (((Gr.refl w1).alloc (.cells #[.int .i64 c.th, .int .i64 c.sl, .int .i64 c.cp, .int .i64 c.he, .int .i64 c.ke, .int .i64 c.ev, .int .i64 c.la, .slice (some ⟨g, 0, none⟩) l.length cap, .int .i64 0, .int .i64 0, .int .i64 0, .int .u64 0, .int .u64 0, .int .u64 0, .bool false] 50)).alloc (.cells (helpRow (HS.new h)) 98)) g3))
  have A1 : Hid (Blk w3 (w1.heap.size + 1) (helpRow (HS.new h)) 98) := hid (Blk.gr (Blk.new' (by simp)) g3)
  clear AX g3
  have AX := hid AX2.out
  clear AX2
  have x0 := AX.out.cell (i := 0) rfl
  have x1 := AX.out.cell (i := 1) rfl
  have x2 := AX.out.cell (i := 2) rfl
  have x3 := AX.out.cell (i := 3) rfl
  have x4 := AX.out.cell (i := 4) rfl
  have x5 := AX.out.cell (i := 5) rfl
  have x6 := AX.out.cell (i := 6) rfl
  have zW : w1.heap.size + 1 < w3.heap.size := A1.out.lt
  have z1 := G1.out.size
  have ss := SS.out
  have hx : ((w.alloc (.cells #[.int .i64 c.th, .int .i64 c.sl, .int .i64 c.cp, .int .i64 c.he, .int .i64 c.ke, .int .i64 c.ev, .int .i64 c.la] 23)).heap.size : Nat) = w.heap.size + 1 := by simp
  have hTri : ∀ k, Tri (w1.heap.size + 1) p q k → w.heap.size ≤ k ∧ k ≠ w.heap.size := by
    unfold Tri
    intro k hk
    rcases hk with hk | hk | hk <;> omega
  have HTri := hid hTri
  have sn1 : w1.heap.size + 1 ≠ m := by omega
  have sn2 : w1.heap.size + 1 ≠ p := by omega
  have sn3 : w1.heap.size + 1 ≠ q := by omega
  have SN := hid (⟨sn1, sn2, sn3⟩ : _ ∧ _ ∧ _)
  clear hTri hx sn1 sn2 sn3 ss
  have hpos : 0 < l.length := by have := HLEN.out; have := (cells_pos c).2 HOK.out; omega
  obtain ⟨av, capv, rfl, hcv⟩ : ∃ (av : Addr) (capv : Nat), v = .slice (some av) l.length capv ∧ ∀ i, i < l.length → w.cell? (av.add i) = some (.int .u64 (l.getD i 0)) := by
    rcases HV.out with ⟨_, e⟩ | ⟨a, cap', e1, _, e2⟩
    · rw [e] at hpos; exact absurd hpos (by simp)
    · exact ⟨a, cap', e1, e2⟩
  have tlt : tc c h < l.length := by have := HLEN.out; omega
  have HCV := hid hcv
  have hcel := hid (fun w => (cell_any c (hI h) 4 w).mono fun e w' hq => (⟨by rw [hq.1, TL1.out], hq.2⟩ : e = .returned (.int .i64 ((tc c h : Nat) : Int)) ∧ Gr w w'))
  unfold Cf.val at hcel
  clear hcv
  go_wp2_with fail
  clear x0 x1 x2 x3 x4 x5 x6
  have hne : Nonempty (St (Gr w3)) := ⟨⟨w3, Gr.refl _⟩⟩
  have x0 : ∀ s : St (Gr w3), s.val.cell? ⟨w.heap.size, 0, none⟩ = some (.int .i64 c.th) := fun s => (Blk.gr AX.out s.ok).cell rfl
  have x1 : ∀ s : St (Gr w3), s.val.cell? ⟨w.heap.size, 1, none⟩ = some (.int .i64 c.sl) := fun s => (Blk.gr AX.out s.ok).cell rfl
  have x2 : ∀ s : St (Gr w3), s.val.cell? ⟨w.heap.size, 2, none⟩ = some (.int .i64 c.cp) := fun s => (Blk.gr AX.out s.ok).cell rfl
  have x3 : ∀ s : St (Gr w3), s.val.cell? ⟨w.heap.size, 3, none⟩ = some (.int .i64 c.he) := fun s => (Blk.gr AX.out s.ok).cell rfl
  have x4 : ∀ s : St (Gr w3), s.val.cell? ⟨w.heap.size, 4, none⟩ = some (.int .i64 c.ke) := fun s => (Blk.gr AX.out s.ok).cell rfl
  have x5 : ∀ s : St (Gr w3), s.val.cell? ⟨w.heap.size, 5, none⟩ = some (.int .i64 c.ev) := fun s => (Blk.gr AX.out s.ok).cell rfl
  have x6 : ∀ s : St (Gr w3), s.val.cell? ⟨w.heap.size, 6, none⟩ = some (.int .i64 c.la) := fun s => (Blk.gr AX.out s.ok).cell rfl
  have xv : ∀ s : St (Gr w3), s.val.cell? (av.add (tc c h)) = some (.int .u64 (l.getD (tc c h) 0)) := fun s => Gr.cell (Gr.trans GG.out s.ok) (HCV.out _ tlt)
  have tlt' : ((tc c h : Nat) : Int) < l.length := by omega
  have hnu := getD_u64 HU.out (tc c h)
  have hmn := HMN.out
  obtain ⟨hnu0, hnu1⟩ := hnu
  generalize l.getD (tc c h) 0 = n4 at *
  refine wp_region_inv (Gr w3) (by kernel_rfl) (by kernel_rfl) (Gr.refl w3).drew ?_
  repeat (go_big_quiet_step ((go_at_call 21; (with_reducible exact Calls.st_gr (hcel.out _)))))
  rw [show (if c.he < if n4 < 1 then 1 else n4 then c.he else if n4 < 1 then 1 else n4) = (T : Int) from hmn]
  generalize (if n4 < 1 then (1 : Int) else n4) = mxv
  refine wpQuiet_nil ?_
  rintro W4 ⟨⟨_, g4⟩, rfl⟩
  clear x0 x1 x2 x3 x4 x5 x6 xv hne hmn hnu0 hnu1
  have M4 := hid (M3.out.gr g4)
  have B4 := hid (Blk.gr A1.out g4)
  have X4 := hid (AX.out.gr g4)
  have G4 := hid (Gr.trans GG.out g4)
  clear g4 AX M3 A1 GG
  go_wp2_with fail
  refine (ends_any (w1.heap.size + 1) m p q c HOK.out (HS.new h) ⟨l, 0, Acc.zero⟩ W4 100 (by omega) B4.out M4.out SN.out.1 SN.out.2.1 SN.out.2.2 F1.out W1.out).mono ?_
  rintro e W5 ⟨rfl, hA5, hM5, g5⟩
  have M5 := hid hM5
  have B5 := hid hA5
  have X5 := hid (Blk.chg X4.out g5 (fun hk => (HTri.out _ hk).2 rfl))
  have G5 := hid (Gr.step G4.out g5 (fun k hk => (HTri.out k hk).1))
  clear hA5 hM5 g5 X4
  have hbk := hid (mbank_any m p q c _ W5 M5.out)
  have hl1000 : (endsf c 100 (HS.new h) ⟨l, 0, Acc.zero⟩).2.2.cells.length ≤ 400 := by have := P4.out; omega
  have hcl := hid (fun w hb => cells_any p q (endsf c 100 (HS.new h) ⟨l, 0, Acc.zero⟩).2.2 w hb (by omega))
  generalize hcsg : (endsf c 100 (HS.new h) ⟨l, 0, Acc.zero⟩) = R1 at *
  clear hcsg
  have hR1 := P2.out
  have hR1' : (R1.1 : Int) ≤ 2 * (T : Int) + 1 := by omega
  have hcslen := P4.out
  have hwh := hid (fun (k : Int) w (K A B : Int) (e : c.whr k = (K, A, B)) => plan_Where.calls c.th c.sl c.cp c.he c.ke c.ev c.la k K A B w ((where_f c k).trans (congrArg some e)))
  go_wp2_with fail
  refine hbk.out.mono ?_
  rintro e W6 ⟨rfl, rfl⟩
  go_wp2_with fail
  refine (hcl.out _ M5.out.bank).mono ?_
  rintro e W7 ⟨rfl, hq7, g7⟩
  have Q7 := hid hq7
  have M7 := hid (M5.out.gr g7)
  have B7 := hid (Blk.gr B5.out g7)
  have X7 := hid (Blk.gr X5.out g7)
  have G7 := hid (Gr.trans G5.out g7)
  clear hq7 g7
  go_wp2_with fail
  go_loopw [65] (fun i wr => ∃ k : Nat, k ≤ R1.2.2.cells.length ∧ i = .int .i64 (k : Int) ∧ Gr W7 wr) (fun i _ => R1.2.2.cells.length - (intOf i).toNat)
  case atStart => exact ⟨0, Nat.zero_le _, rfl, Gr.refl _⟩
  case round =>
    obtain ⟨k, hk, rfl, gr0⟩ := hrel
    have GR := hid gr0
    clear gr0
    by_cases hlt : k < R1.2.2.cells.length
    · have hlt' : (k : Int) < R1.2.2.cells.length := by omega
      have hltl : (k : Int) < l.length := by omega
      have hk0 : 0 ≤ (k : Int) := by omega
      obtain ⟨⟨K, A, B⟩, hkab⟩ : ∃ z, c.whr k = z := ⟨_, rfl⟩
      obtain ⟨f1, f2⟩ := P5.out k (by omega) K A B hkab
      have hux := getD_u64 HU.out k
      have HW := hid (fun w => hwh.out k w K A B hkab)
      have q1 : ∀ w', Gr W7 w' → w'.cell? ⟨W5.heap.size, k, none⟩ = some (.int .u64 (R1.2.2.cells.getD k 0)) := fun w' g => (Blk.gr Q7.out g).cell (by simp [wordsRow_get, List.getD, hlt])
      have q2 : ∀ w', Gr W7 w' → w'.cell? (av.add k) = some (.int .u64 (l.getD k 0)) := fun w' g => Gr.cell (Gr.trans G7.out g) (HCV.out k (by omega))
      have Q1 := hid q1
      have Q2 := hid q2
      have hmk := hid (mark_any (l.getD k 0) hux)
      generalize R1.2.2.cells.getD k 0 = x at *
      generalize l.getD k 0 = y at *
      have F1' := hid f1
      have F2' := hid f2
      clear f1 f2 q1 q2 hkab hux
      have y1 := Q1.out _ GR.out
      have XX := X7.out.gr GR.out
      have x0 := XX.cell (i := 0) rfl
      have x1 := XX.cell (i := 1) rfl
      have x2 := XX.cell (i := 2) rfl
      have x3 := XX.cell (i := 3) rfl
      have x4 := XX.cell (i := 4) rfl
      have x5 := XX.cell (i := 5) rfl
      have x6 := XX.cell (i := 6) rfl
      clear XX
      go_wp2_with fail
      refine (HW.out _).mono ?_
      rintro e w9 ⟨rfl, g9⟩
      have G9 := hid (Gr.trans GR.out g9)
      have y2 := Q2.out _ G9.out
      have alt9 := lt_of_cell y2
      clear g9 y1 x0 x1 x2 x3 x4 x5 x6
      have hcase : (K = 3 ∧ A = hI h ∧ 6 ≤ B ∧ B < 6 + (T : Int)) ∨ (K == 3) = false ∨ ((K == 3) = true ∧ (A == hI h) = false) ∨ ((K == 3) = true ∧ (A == hI h) = true ∧ decide (6 ≤ B) = false) ∨ ((K == 3) = true ∧ (A == hI h) = true ∧ decide (6 ≤ B) = true ∧ decide (B < 6 + (T : Int)) = false) := by
        by_cases k1 : K = 3
        · by_cases k2 : A = hI h
          · by_cases k3 : 6 ≤ B
            · by_cases k4 : B < 6 + (T : Int)
              · exact .inl ⟨k1, k2, k3, k4⟩
              · exact .inr (.inr (.inr (.inr ⟨by simpa using k1, by simpa using k2, decide_eq_true k3, decide_eq_false k4⟩)))
            · exact .inr (.inr (.inr (.inl ⟨by simpa using k1, by simpa using k2, decide_eq_false k3⟩)))
          · exact .inr (.inr (.inl ⟨by simpa using k1, by simpa using k2⟩))
        · exact .inr (.inl (by simpa using k1))
      rcases hcase with ⟨k1, k2, k3, k4⟩ | k1 | ⟨k1, k2⟩ | ⟨k1, k2, k3⟩ | ⟨k1, k2, k3, k4⟩
      · have hxy := F1'.out ⟨k1, k2, k3, k4⟩
        have k1' : (K == 3) = true := by simpa using k1
        have k2' : (A == hI h) = true := by simpa using k2
        have k3' : decide (6 ≤ B) = true := decide_eq_true k3
        have k4' : decide (B < 6 + (T : Int)) = true := decide_eq_true k4
        have hb : (x != hMk y) = false := by rw [hxy]; simp
        have HXY := hid hxy
        clear hxy k1 k2
        generalize hMk y = my at *
        go_wp2_with fail
        refine (hmk.out _).mono ?_
        rintro e wa ⟨rfl, rfl⟩
        go_wp2_with fail
        go_roundw
        case rel => exact ⟨k + 1, by omega, by go_num, G9.out.alloc _⟩
        case measure => simp [intOf]; omega
      · have hxy := F2'.out (fun hq => by obtain ⟨q1, q2, q3, q4⟩ := hq; simp_all <;> omega)
        have hb : (x != y) = false := by rw [hxy]; simp
        have HXY := hid hxy
        clear hxy
        go_wp2_with fail
        go_roundw
        case rel => exact ⟨k + 1, by omega, by go_num, G9.out.alloc _⟩
        case measure => simp [intOf]; omega
      · have hxy := F2'.out (fun hq => by obtain ⟨q1, q2, q3, q4⟩ := hq; simp_all <;> omega)
        have hb : (x != y) = false := by rw [hxy]; simp
        have HXY := hid hxy
        clear hxy
        go_wp2_with fail
        go_roundw
        case rel => exact ⟨k + 1, by omega, by go_num, G9.out.alloc _⟩
        case measure => simp [intOf]; omega
      · have hxy := F2'.out (fun hq => by obtain ⟨q1, q2, q3, q4⟩ := hq; simp_all <;> omega)
        have hb : (x != y) = false := by rw [hxy]; simp
        have HXY := hid hxy
        clear hxy
        go_wp2_with fail
        go_roundw
        case rel => exact ⟨k + 1, by omega, by go_num, G9.out.alloc _⟩
        case measure => simp [intOf]; omega
      · have hxy := F2'.out (fun hq => by obtain ⟨q1, q2, q3, q4⟩ := hq; simp_all <;> omega)
        have hb : (x != y) = false := by rw [hxy]; simp
        have HXY := hid hxy
        clear hxy
        go_wp2_with fail
        go_roundw
        case rel => exact ⟨k + 1, by omega, by go_num, G9.out.alloc _⟩
        case measure => simp [intOf]; omega
    · have hge : ¬ (k : Int) < R1.2.2.cells.length := by omega
      have HCT := hid (fun w hb => (count_any p q R1.2.2 w hb).mono fun e w' hq => (⟨by rw [hq.1, P3.out], hq.2⟩ : e = .returned (.int .i64 (R1.1 : Int)) ∧ w = w'))
      go_wp2_with fail
      refine (halive _).mono ?_
      rintro e Wc ⟨rfl, gc⟩
      have gcc := hid (Gr.trans GR.out gc)
      have hdn := hid (hdone_yes (w1.heap.size + 1) R1.2.1 Wc (Blk.gr B7.out gcc.out) P1.out)
      have hbk3 := hid (mbank_any m p q c _ Wc (M7.out.gr gcc.out))
      have hM8 := hid (M7.out.gr gcc.out)
      clear gc
      go_wp2_with fail
      refine hdn.out.mono ?_
      rintro e Wd ⟨rfl, rfl⟩
      go_wp2_with fail
      refine hbk3.out.mono ?_
      rintro e Wd ⟨rfl, rfl⟩
      go_wp2_with fail
      refine (HCT.out _ hM8.out.bank).mono ?_
      rintro e Wd ⟨rfl, rfl⟩
      go_wp2_with fail
      go_ret
      exact ⟨rfl, Gr.trans G7.out gcc.out⟩

theorem helpAlone_at {w : World} (a b c d e f g : Int) (v : Value) (l : List Int) (hw : Words w v l) (hl : l.length ≤ 17592186044416) (hu : ∀ x ∈ l, U64 x) (h : Int) (hh : U64 h) :
    Calls Try.prog 14 #[.agg #[.int .i64 a, .int .i64 b, .int .i64 c, .int .i64 d, .int .i64 e, .int .i64 f, .int .i64 g], v, .int .u64 h] w fun e w' => e = .returned (.bool true) ∧ Gr w w' := by
  by_cases hth : There (Cf.mk a b c d e f g) l
  · by_cases hi : hI h ≤ (Cf.mk a b c d e f g).cp
    · exact alone_main (Cf.mk a b c d e f g) v l h hh w hw hth hi hu
    · exact alone_far (Cf.mk a b c d e f g) v l h hh w hw hth (by omega)
  · exact alone_none (Cf.mk a b c d e f g) v l h hh w hw hth
end Go.Proofs.YthbkncklliiooaaH
