/-
  HelpAgain: the walk.
-/
import Derived.Test.YthbkncklliiooaaHv
import Derived.Test.YthbkncklliiooaaLc
namespace Go.Proofs.YthbkncklliiooaaH
set_option linter.unusedVariables false
set_option linter.unusedSimpArgs false
open Go.RowKit Go.Proofs.YthbkncklliiooaaW.PrintWords Go.Proofs.YthbkncklliiooaaW.PrintLast Go.Proofs.YthbkncklliiooaaW.PrintMore
attribute [local go_sem] max2_int min2_int

/-- What two helps, one behind the other, come to. -/
theorem again_pure {c : Cf} {h : Int} {l : List Int} {T : Nat} (C : Ctx c h T) (R : Row c h T l) :
    (endsf c 100 (HS.new h) (endsf c 100 (HS.new h) ⟨l, 0, Acc.zero⟩).2.2).1 = T + 1 ∧ (endsf c 100 (HS.new h) (endsf c 100 (HS.new h) ⟨l, 0, Acc.zero⟩).2.2).2.1.st = .done ∧
    (endsf c 100 (HS.new h) (endsf c 100 (HS.new h) ⟨l, 0, Acc.zero⟩).2.2).2.2.cells = (endsf c 100 (HS.new h) ⟨l, 0, Acc.zero⟩).2.2.cells ∧ ((endsf c 100 (HS.new h) ⟨l, 0, Acc.zero⟩).2.2.cells.length : Int) = c.cells := by
  have h6 : T ≤ 6 := by have := C.t1; have := C.ok.2.2.2.2.2.2.2.1; omega
  have r := Runs.ends C R (Runs.new C R) 100
  obtain ⟨E, _⟩ := ends_tall C (H := HS.new h) (B := ⟨l, 0, Acc.zero⟩) (k := 100) rfl R (Runs.new C R).inv (by omega) (by show (0 : Int) ≤ 0; omega) (by show (0 : Int) ≤ 1000; omega)
  have hc : (endsf c 100 (HS.new h) ⟨l, 0, Acc.zero⟩).2.2.count = 0 + ((endsf c 100 (HS.new h) ⟨l, 0, Acc.zero⟩).1 : Int) := E.count
  have hm := E.most
  have r2 : Hinv c h T (HS.new h) (endsf c 100 (HS.new h) ⟨l, 0, Acc.zero⟩).2.2.cells := ⟨rfl, (fun e => by rcases e with e | e <;> cases e), (fun e => by cases e)⟩
  obtain ⟨E2, A⟩ := ends_tall C (H := HS.new h) (B := (endsf c 100 (HS.new h) ⟨l, 0, Acc.zero⟩).2.2) (k := 100) rfl r.row r2 (by omega) (by omega) (by omega)
  obtain ⟨a1, a2⟩ := A (r.inv.dn E.done)
  exact ⟨a1, E2.done, a2, r.row.len⟩

set_option maxRecDepth 100000 in
set_option maxHeartbeats 8000000 in
theorem again_none (c : Cf) (v : Value) (l : List Int) (h : Int) (hh : U64 h) (w : World) (hw : Words w v l) (hno : ¬ There c l) :
    Calls Try.prog 11 #[.agg #[.int .i64 c.th, .int .i64 c.sl, .int .i64 c.cp, .int .i64 c.he, .int .i64 c.ke, .int .i64 c.ev, .int .i64 c.la], v, .int .u64 h] w fun e w' => e = .returned (.bool true) ∧ Gr w w' := by
  have hl := fun w hw => lof_no c v l w hw hno
  unfold Cf.val zeroMem at hl
  have HL := hid hl
  have HW := hid hw
  clear hl hw hno
  go_enter Try.func11, Try.ntmps11
  go_wp2_with fail
  refine (HL.out _ (HW.out.gr ((Gr.refl w).alloc _))).mono ?_
  rintro e w1 ⟨rfl, g1⟩
  have AX := hid (Blk.gr (Blk.new w #[.int .i64 c.th, .int .i64 c.sl, .int .i64 c.cp, .int .i64 c.he, .int .i64 c.ke, .int .i64 c.ev, .int .i64 c.la] 23) g1)
  have G1 := hid (Gr.trans ((Gr.refl w).alloc _) g1)
  clear g1
  go_wp2_with fail
  refine (hnew_any h _).mono ?_
  rintro e w2 ⟨rfl, rfl⟩
  go_wp2_with fail
  refine (hnew_any h _).mono ?_
  rintro e w3 ⟨rfl, rfl⟩
  have GG := hid (((G1.out.alloc (.cells #[.int .i64 0, .int .i64 0, .int .i64 0, .int .i64 0, .int .i64 0, .int .i64 0, .int .i64 0, .slice none 0 0, .int .i64 0, .int .i64 0, .int .i64 0, .int .u64 0, .int .u64 0, .int .u64 0, .bool false] 50)).alloc (.cells (helpRow (HS.new h)) 98)).alloc (.cells (helpRow (HS.new h)) 98))
  have AX2 := hid (AX.out.gr ((((Gr.refl w1).alloc (.cells #[.int .i64 0, .int .i64 0, .int .i64 0, .int .i64 0, .int .i64 0, .int .i64 0, .int .i64 0, .slice none 0 0, .int .i64 0, .int .i64 0, .int .i64 0, .int .u64 0, .int .u64 0, .int .u64 0, .bool false] 50)).alloc (.cells (helpRow (HS.new h)) 98)).alloc (.cells (helpRow (HS.new h)) 98)))
  clear AX
  have AX := hid AX2.out
  clear AX2
  generalize (((w1.alloc (.cells #[.int .i64 0, .int .i64 0, .int .i64 0, .int .i64 0, .int .i64 0, .int .i64 0, .int .i64 0, .slice none 0 0, .int .i64 0, .int .i64 0, .int .i64 0, .int .u64 0, .int .u64 0, .int .u64 0, .bool false] 50)).alloc (.cells (helpRow (HS.new h)) 98)).alloc (.cells (helpRow (HS.new h)) 98)) = W at *
  have hne : Nonempty (St (Gr W)) := ⟨⟨W, Gr.refl _⟩⟩
  have x0 : ∀ s : St (Gr W), s.val.cell? ⟨w.heap.size, 0, none⟩ = some (.int .i64 c.th) := fun s => (Blk.gr AX.out s.ok).cell rfl
  have x1 : ∀ s : St (Gr W), s.val.cell? ⟨w.heap.size, 1, none⟩ = some (.int .i64 c.sl) := fun s => (Blk.gr AX.out s.ok).cell rfl
  have x2 : ∀ s : St (Gr W), s.val.cell? ⟨w.heap.size, 2, none⟩ = some (.int .i64 c.cp) := fun s => (Blk.gr AX.out s.ok).cell rfl
  have x3 : ∀ s : St (Gr W), s.val.cell? ⟨w.heap.size, 3, none⟩ = some (.int .i64 c.he) := fun s => (Blk.gr AX.out s.ok).cell rfl
  have x4 : ∀ s : St (Gr W), s.val.cell? ⟨w.heap.size, 4, none⟩ = some (.int .i64 c.ke) := fun s => (Blk.gr AX.out s.ok).cell rfl
  have x5 : ∀ s : St (Gr W), s.val.cell? ⟨w.heap.size, 5, none⟩ = some (.int .i64 c.ev) := fun s => (Blk.gr AX.out s.ok).cell rfl
  have x6 : ∀ s : St (Gr W), s.val.cell? ⟨w.heap.size, 6, none⟩ = some (.int .i64 c.la) := fun s => (Blk.gr AX.out s.ok).cell rfl
  go_wp2_with fail
  refine wp_region_inv (Gr W) (by kernel_rfl) (by kernel_rfl) (Gr.refl W).drew ?_
  repeat (go_big_quiet_step (fail))
  refine wpQuiet_nil ?_
  rintro W2 ⟨⟨_, g2⟩, rfl⟩
  clear x0 x1 x2 x3 x4 x5 x6 hne
  go_wp2_with fail
  refine (halive _).mono ?_
  rintro e W3 ⟨rfl, g3⟩
  go_wp2_with fail
  go_ret
  exact ⟨rfl, Gr.trans GG.out (Gr.trans g2 g3)⟩

set_option maxRecDepth 100000 in
set_option maxHeartbeats 8000000 in
theorem again_far (c : Cf) (v : Value) (l : List Int) (h : Int) (hh : U64 h) (w : World) (hw : Words w v l) (hth : There c l) (hbig : c.cp < hI h) :
    Calls Try.prog 11 #[.agg #[.int .i64 c.th, .int .i64 c.sl, .int .i64 c.cp, .int .i64 c.he, .int .i64 c.ke, .int .i64 c.ev, .int .i64 c.la], v, .int .u64 h] w fun e w' => e = .returned (.bool true) ∧ Gr w w' := by
  have hd : decide (c.cp < hI h) = true := by simpa using hbig
  have hix0 : hI h ≤ 4294967295 := by unfold hI; omega
  have hl := fun w hw => lof_yes c v l w hw hth
  unfold Cf.val MadeBoth refMem Acc.zero at hl
  have HL := hid hl
  have HW := hid hw
  have hix := index_any h hh
  have HIX := hid hix
  clear hl hw hix
  go_enter Try.func11, Try.ntmps11
  go_wp2_with fail
  refine (HL.out _ (HW.out.gr ((Gr.refl w).alloc _))).mono ?_
  rintro e w1 ⟨m, p, q, g, cap, rfl, hm, hwr, g1, ⟨sm, sp, sq, sg⟩, hapart, hglt⟩
  have AX := hid (Blk.gr (Blk.new w #[.int .i64 c.th, .int .i64 c.sl, .int .i64 c.cp, .int .i64 c.he, .int .i64 c.ke, .int .i64 c.ev, .int .i64 c.la] 23) g1)
  have G1 := hid (Gr.trans ((Gr.refl w).alloc _) g1)
  have M1 := hid hm
  have SS := hid (⟨sm, sp, sq, sg⟩ : _ ∧ _ ∧ _ ∧ _)
  have mlt : m < w1.heap.size := hm.mem.lt
  have plt : p < w1.heap.size := hm.bank.head.lt
  have qlt : q < w1.heap.size := hm.bank.row.lt
  clear g1 hm hwr sm sp sq sg hapart hglt
  go_wp2_with fail
  refine (hnew_any h _).mono ?_
  rintro e w2 ⟨rfl, rfl⟩
  go_wp2_with fail
  refine (hnew_any h _).mono ?_
  rintro e w3 ⟨rfl, rfl⟩
  have GG := hid (((G1.out.alloc (.cells #[.int .i64 c.th, .int .i64 c.sl, .int .i64 c.cp, .int .i64 c.he, .int .i64 c.ke, .int .i64 c.ev, .int .i64 c.la, .slice (some ⟨g, 0, none⟩) l.length cap, .int .i64 0, .int .i64 0, .int .i64 0, .int .u64 0, .int .u64 0, .int .u64 0, .bool false] 50)).alloc (.cells (helpRow (HS.new h)) 98)).alloc (.cells (helpRow (HS.new h)) 98))
  have AX2 := hid (AX.out.gr ((((Gr.refl w1).alloc (.cells #[.int .i64 c.th, .int .i64 c.sl, .int .i64 c.cp, .int .i64 c.he, .int .i64 c.ke, .int .i64 c.ev, .int .i64 c.la, .slice (some ⟨g, 0, none⟩) l.length cap, .int .i64 0, .int .i64 0, .int .i64 0, .int .u64 0, .int .u64 0, .int .u64 0, .bool false] 50)).alloc (.cells (helpRow (HS.new h)) 98)).alloc (.cells (helpRow (HS.new h)) 98)))
  have M3 := hid (M1.out.gr ((((Gr.refl w1).alloc (.cells #[.int .i64 c.th, .int .i64 c.sl, .int .i64 c.cp, .int .i64 c.he, .int .i64 c.ke, .int .i64 c.ev, .int .i64 c.la, .slice (some ⟨g, 0, none⟩) l.length cap, .int .i64 0, .int .i64 0, .int .i64 0, .int .u64 0, .int .u64 0, .int .u64 0, .bool false] 50)).alloc (.cells (helpRow (HS.new h)) 98)).alloc (.cells (helpRow (HS.new h)) 98)))
  have A1 : Hid (Blk (((w1.alloc (.cells #[.int .i64 c.th, .int .i64 c.sl, .int .i64 c.cp, .int .i64 c.he, .int .i64 c.ke, .int .i64 c.ev, .int .i64 c.la, .slice (some ⟨g, 0, none⟩) l.length cap, .int .i64 0, .int .i64 0, .int .i64 0, .int .u64 0, .int .u64 0, .int .u64 0, .bool false] 50)).alloc (.cells (helpRow (HS.new h)) 98)).alloc (.cells (helpRow (HS.new h)) 98)) (w1.heap.size + 1) (helpRow (HS.new h)) 98) := hid ((Blk.new' (by simp)).alloc _)
  have A2 : Hid (Blk (((w1.alloc (.cells #[.int .i64 c.th, .int .i64 c.sl, .int .i64 c.cp, .int .i64 c.he, .int .i64 c.ke, .int .i64 c.ev, .int .i64 c.la, .slice (some ⟨g, 0, none⟩) l.length cap, .int .i64 0, .int .i64 0, .int .i64 0, .int .u64 0, .int .u64 0, .int .u64 0, .bool false] 50)).alloc (.cells (helpRow (HS.new h)) 98)).alloc (.cells (helpRow (HS.new h)) 98)) (w1.heap.size + 2) (helpRow (HS.new h)) 98) := hid (Blk.new' (by simp))
  have e1 : (w1.alloc (.cells #[.int .i64 c.th, .int .i64 c.sl, .int .i64 c.cp, .int .i64 c.he, .int .i64 c.ke, .int .i64 c.ev, .int .i64 c.la, .slice (some ⟨g, 0, none⟩) l.length cap, .int .i64 0, .int .i64 0, .int .i64 0, .int .u64 0, .int .u64 0, .int .u64 0, .bool false] 50)).heap.size = w1.heap.size + 1 := by simp
  have e2 : ((w1.alloc (.cells #[.int .i64 c.th, .int .i64 c.sl, .int .i64 c.cp, .int .i64 c.he, .int .i64 c.ke, .int .i64 c.ev, .int .i64 c.la, .slice (some ⟨g, 0, none⟩) l.length cap, .int .i64 0, .int .i64 0, .int .i64 0, .int .u64 0, .int .u64 0, .int .u64 0, .bool false] 50)).alloc (.cells (helpRow (HS.new h)) 98)).heap.size = w1.heap.size + 2 := by simp
  rw [e2]
  clear AX e1 e2
  have AX := hid AX2.out
  clear AX2
  generalize (((w1.alloc (.cells #[.int .i64 c.th, .int .i64 c.sl, .int .i64 c.cp, .int .i64 c.he, .int .i64 c.ke, .int .i64 c.ev, .int .i64 c.la, .slice (some ⟨g, 0, none⟩) l.length cap, .int .i64 0, .int .i64 0, .int .i64 0, .int .u64 0, .int .u64 0, .int .u64 0, .bool false] 50)).alloc (.cells (helpRow (HS.new h)) 98)).alloc (.cells (helpRow (HS.new h)) 98)) = W at *
  have hne : Nonempty (St (Gr W)) := ⟨⟨W, Gr.refl _⟩⟩
  have x0 : ∀ s : St (Gr W), s.val.cell? ⟨w.heap.size, 0, none⟩ = some (.int .i64 c.th) := fun s => (Blk.gr AX.out s.ok).cell rfl
  have x1 : ∀ s : St (Gr W), s.val.cell? ⟨w.heap.size, 1, none⟩ = some (.int .i64 c.sl) := fun s => (Blk.gr AX.out s.ok).cell rfl
  have x2 : ∀ s : St (Gr W), s.val.cell? ⟨w.heap.size, 2, none⟩ = some (.int .i64 c.cp) := fun s => (Blk.gr AX.out s.ok).cell rfl
  have x3 : ∀ s : St (Gr W), s.val.cell? ⟨w.heap.size, 3, none⟩ = some (.int .i64 c.he) := fun s => (Blk.gr AX.out s.ok).cell rfl
  have x4 : ∀ s : St (Gr W), s.val.cell? ⟨w.heap.size, 4, none⟩ = some (.int .i64 c.ke) := fun s => (Blk.gr AX.out s.ok).cell rfl
  have x5 : ∀ s : St (Gr W), s.val.cell? ⟨w.heap.size, 5, none⟩ = some (.int .i64 c.ev) := fun s => (Blk.gr AX.out s.ok).cell rfl
  have x6 : ∀ s : St (Gr W), s.val.cell? ⟨w.heap.size, 6, none⟩ = some (.int .i64 c.la) := fun s => (Blk.gr AX.out s.ok).cell rfl
  go_wp2_with fail
  refine wp_region_inv (Gr W) (by kernel_rfl) (by kernel_rfl) (Gr.refl W).drew ?_
  repeat (go_big_quiet_step ((go_at_call 29; (with_reducible exact Calls.st_gr (HIX.out _)))))
  refine wpQuiet_nil ?_
  rintro W2 ⟨⟨_, g2⟩, rfl⟩
  clear x0 x1 x2 x3 x4 x5 x6 hne
  go_wp2_with fail
  refine (halive _).mono ?_
  rintro e W3 ⟨rfl, g3⟩
  go_wp2_with fail
  go_ret
  exact ⟨rfl, Gr.trans GG.out (Gr.trans g2 g3)⟩

set_option maxRecDepth 100000 in
set_option maxHeartbeats 8000000 in
theorem again_main (c : Cf) (v : Value) (l : List Int) (h : Int) (hh : U64 h) (w : World) (hw : Words w v l) (hth : There c l) (hi : hI h ≤ c.cp) (hu : ∀ x ∈ l, U64 x) :
    Calls Try.prog 11 #[.agg #[.int .i64 c.th, .int .i64 c.sl, .int .i64 c.cp, .int .i64 c.he, .int .i64 c.ke, .int .i64 c.ev, .int .i64 c.la], v, .int .u64 h] w fun e w' => e = .returned (.bool true) ∧ Gr w w' := by
  obtain ⟨T, C, R, hT⟩ := ctx_of hth hh hi hu
  have hd : decide (c.cp < hI h) = false := by simp; omega
  have hi0 := C.i0
  have hcp : c.cp ≤ 64 := hth.1.2.2.2.2.2.1
  obtain ⟨p1, p2, p3, p4⟩ := again_pure C R
  obtain ⟨tl1, tl2⟩ := C.tl
  have hmn := top_mx hT
  have hok := hth.1
  have he1 : 1 ≤ c.he := hok.2.2.2.2.2.2.1
  have he2 : c.he ≤ 6 := hok.2.2.2.2.2.2.2.1
  have hT1 := C.t0
  have hT2 := C.t1
  have hlen := hth.2.1
  have hl4 := hth.2.2
  have W1 := hid (show (⟨l, 0, Acc.zero⟩ : Bk).Wd from hu)
  have F1 := hid (new_fit hh)
  have W2' := hid ((ends_fw hok 100 F1.out W1.out).2)
  have P1 := hid p1
  have P2 := hid p2
  have P3 := hid p3
  have P4 := hid p4
  have TL1 := hid tl1
  have HMN := hid hmn
  have HLEN := hid hlen
  have HOK := hid hok
  have HT := hid hT
  have HU := hid hu
  have CC := hid C
  have HV := hid hw
  clear C R p1 p2 p3 p4 tl1 hmn hlen hok hT hu
  have hl := fun w hw => lof_yes c v l w hw hth
  unfold Cf.val MadeBoth refMem Acc.zero at hl
  have HL := hid hl
  have HW := hid hw
  have hix := index_any h hh
  have HIX := hid hix
  clear hl hw hix
  go_enter Try.func11, Try.ntmps11
  go_wp2_with fail
  refine (HL.out _ (HW.out.gr ((Gr.refl w).alloc _))).mono ?_
  rintro e w1 ⟨m, p, q, g, cap, rfl, hm, hwr, g1, ⟨sm, sp, sq, sg⟩, hapart, hglt⟩
  have AX := hid (Blk.gr (Blk.new w #[.int .i64 c.th, .int .i64 c.sl, .int .i64 c.cp, .int .i64 c.he, .int .i64 c.ke, .int .i64 c.ev, .int .i64 c.la] 23) g1)
  have G1 := hid (Gr.trans ((Gr.refl w).alloc _) g1)
  have M1 := hid hm
  have SS := hid (⟨sm, sp, sq, sg⟩ : _ ∧ _ ∧ _ ∧ _)
  have mlt : m < w1.heap.size := hm.mem.lt
  have plt : p < w1.heap.size := hm.bank.head.lt
  have qlt : q < w1.heap.size := hm.bank.row.lt
  clear g1 hm hwr sm sp sq sg hapart hglt
  go_wp2_with fail
  refine (hnew_any h _).mono ?_
  rintro e w2 ⟨rfl, rfl⟩
  go_wp2_with fail
  refine (hnew_any h _).mono ?_
  rintro e w3 ⟨rfl, rfl⟩
  have GG := hid (((G1.out.alloc (.cells #[.int .i64 c.th, .int .i64 c.sl, .int .i64 c.cp, .int .i64 c.he, .int .i64 c.ke, .int .i64 c.ev, .int .i64 c.la, .slice (some ⟨g, 0, none⟩) l.length cap, .int .i64 0, .int .i64 0, .int .i64 0, .int .u64 0, .int .u64 0, .int .u64 0, .bool false] 50)).alloc (.cells (helpRow (HS.new h)) 98)).alloc (.cells (helpRow (HS.new h)) 98))
  have AX2 := hid (AX.out.gr ((((Gr.refl w1).alloc (.cells #[.int .i64 c.th, .int .i64 c.sl, .int .i64 c.cp, .int .i64 c.he, .int .i64 c.ke, .int .i64 c.ev, .int .i64 c.la, .slice (some ⟨g, 0, none⟩) l.length cap, .int .i64 0, .int .i64 0, .int .i64 0, .int .u64 0, .int .u64 0, .int .u64 0, .bool false] 50)).alloc (.cells (helpRow (HS.new h)) 98)).alloc (.cells (helpRow (HS.new h)) 98)))
  have M3 := hid (M1.out.gr ((((Gr.refl w1).alloc (.cells #[.int .i64 c.th, .int .i64 c.sl, .int .i64 c.cp, .int .i64 c.he, .int .i64 c.ke, .int .i64 c.ev, .int .i64 c.la, .slice (some ⟨g, 0, none⟩) l.length cap, .int .i64 0, .int .i64 0, .int .i64 0, .int .u64 0, .int .u64 0, .int .u64 0, .bool false] 50)).alloc (.cells (helpRow (HS.new h)) 98)).alloc (.cells (helpRow (HS.new h)) 98)))
  have A1 : Hid (Blk (((w1.alloc (.cells #[.int .i64 c.th, .int .i64 c.sl, .int .i64 c.cp, .int .i64 c.he, .int .i64 c.ke, .int .i64 c.ev, .int .i64 c.la, .slice (some ⟨g, 0, none⟩) l.length cap, .int .i64 0, .int .i64 0, .int .i64 0, .int .u64 0, .int .u64 0, .int .u64 0, .bool false] 50)).alloc (.cells (helpRow (HS.new h)) 98)).alloc (.cells (helpRow (HS.new h)) 98)) (w1.heap.size + 1) (helpRow (HS.new h)) 98) := hid ((Blk.new' (by simp)).alloc _)
  have A2 : Hid (Blk (((w1.alloc (.cells #[.int .i64 c.th, .int .i64 c.sl, .int .i64 c.cp, .int .i64 c.he, .int .i64 c.ke, .int .i64 c.ev, .int .i64 c.la, .slice (some ⟨g, 0, none⟩) l.length cap, .int .i64 0, .int .i64 0, .int .i64 0, .int .u64 0, .int .u64 0, .int .u64 0, .bool false] 50)).alloc (.cells (helpRow (HS.new h)) 98)).alloc (.cells (helpRow (HS.new h)) 98)) (w1.heap.size + 2) (helpRow (HS.new h)) 98) := hid (Blk.new' (by simp))
  have e1 : (w1.alloc (.cells #[.int .i64 c.th, .int .i64 c.sl, .int .i64 c.cp, .int .i64 c.he, .int .i64 c.ke, .int .i64 c.ev, .int .i64 c.la, .slice (some ⟨g, 0, none⟩) l.length cap, .int .i64 0, .int .i64 0, .int .i64 0, .int .u64 0, .int .u64 0, .int .u64 0, .bool false] 50)).heap.size = w1.heap.size + 1 := by simp
  have e2 : ((w1.alloc (.cells #[.int .i64 c.th, .int .i64 c.sl, .int .i64 c.cp, .int .i64 c.he, .int .i64 c.ke, .int .i64 c.ev, .int .i64 c.la, .slice (some ⟨g, 0, none⟩) l.length cap, .int .i64 0, .int .i64 0, .int .i64 0, .int .u64 0, .int .u64 0, .int .u64 0, .bool false] 50)).alloc (.cells (helpRow (HS.new h)) 98)).heap.size = w1.heap.size + 2 := by simp
  rw [e2]
  clear AX e1 e2
  have AX := hid AX2.out
  clear AX2
  generalize (((w1.alloc (.cells #[.int .i64 c.th, .int .i64 c.sl, .int .i64 c.cp, .int .i64 c.he, .int .i64 c.ke, .int .i64 c.ev, .int .i64 c.la, .slice (some ⟨g, 0, none⟩) l.length cap, .int .i64 0, .int .i64 0, .int .i64 0, .int .u64 0, .int .u64 0, .int .u64 0, .bool false] 50)).alloc (.cells (helpRow (HS.new h)) 98)).alloc (.cells (helpRow (HS.new h)) 98)) = W at *
  have hne : Nonempty (St (Gr W)) := ⟨⟨W, Gr.refl _⟩⟩
  have x0 : ∀ s : St (Gr W), s.val.cell? ⟨w.heap.size, 0, none⟩ = some (.int .i64 c.th) := fun s => (Blk.gr AX.out s.ok).cell rfl
  have x1 : ∀ s : St (Gr W), s.val.cell? ⟨w.heap.size, 1, none⟩ = some (.int .i64 c.sl) := fun s => (Blk.gr AX.out s.ok).cell rfl
  have x2 : ∀ s : St (Gr W), s.val.cell? ⟨w.heap.size, 2, none⟩ = some (.int .i64 c.cp) := fun s => (Blk.gr AX.out s.ok).cell rfl
  have x3 : ∀ s : St (Gr W), s.val.cell? ⟨w.heap.size, 3, none⟩ = some (.int .i64 c.he) := fun s => (Blk.gr AX.out s.ok).cell rfl
  have x4 : ∀ s : St (Gr W), s.val.cell? ⟨w.heap.size, 4, none⟩ = some (.int .i64 c.ke) := fun s => (Blk.gr AX.out s.ok).cell rfl
  have x5 : ∀ s : St (Gr W), s.val.cell? ⟨w.heap.size, 5, none⟩ = some (.int .i64 c.ev) := fun s => (Blk.gr AX.out s.ok).cell rfl
  have x6 : ∀ s : St (Gr W), s.val.cell? ⟨w.heap.size, 6, none⟩ = some (.int .i64 c.la) := fun s => (Blk.gr AX.out s.ok).cell rfl
  go_wp2_with fail
  refine wp_region_inv (Gr W) (by kernel_rfl) (by kernel_rfl) (Gr.refl W).drew ?_
  repeat (go_big_quiet_step ((go_at_call 29; (with_reducible exact Calls.st_gr (HIX.out _)))))
  refine wpQuiet_nil ?_
  rintro W2 ⟨⟨_, g2⟩, rfl⟩
  clear x0 x1 x2 x3 x4 x5 x6 hne
  have M4 := hid (M3.out.gr g2)
  have B1 := hid (Blk.gr A1.out g2)
  have B2 := hid (Blk.gr A2.out g2)
  have X4 := hid (AX.out.gr g2)
  have G4 := hid (Gr.trans GG.out g2)
  have zW : w1.heap.size + 2 < W.heap.size := A2.out.lt
  have z4 : W.heap.size ≤ W2.heap.size := g2.size
  have z1 := G1.out.size
  have ss := SS.out
  clear AX GG M3 A1 A2 g2 hd
  go_wp2_with fail
  refine (ends_any (w1.heap.size + 1) m p q c HOK.out (HS.new h) ⟨l, 0, Acc.zero⟩ W2 100 (by omega) B1.out M4.out (by omega) (by omega) (by omega) F1.out W1.out).mono ?_
  rintro e W3 ⟨rfl, hA5, hM5, g5⟩
  have hTri : ∀ k, Tri (w1.heap.size + 1) p q k → w.heap.size ≤ k ∧ k ≠ w.heap.size := by
    unfold Tri
    intro k hk
    have := ss
    have hx : ((w.alloc (.cells #[.int .i64 c.th, .int .i64 c.sl, .int .i64 c.cp, .int .i64 c.he, .int .i64 c.ke, .int .i64 c.ev, .int .i64 c.la] 23)).heap.size : Nat) = w.heap.size + 1 := by simp
    rcases hk with hk | hk | hk <;> omega
  have HTri := hid hTri
  have M5 := hid hM5
  have B5 := hid (Blk.chg B2.out g5 (by unfold Tri; omega))
  have X5 := hid (Blk.chg X4.out g5 (fun hk => (hTri _ hk).2 rfl))
  have G5 := hid (Gr.step G4.out g5 (fun k hk => (hTri k hk).1))
  have z5 : W2.heap.size ≤ W3.heap.size := g5.size
  clear hTri hA5 hM5 g5 B1 B2 X4
  have hbk := hid (mbank_any m p q c _ W3 M5.out)
  have hl1000 : (endsf c 100 (HS.new h) ⟨l, 0, Acc.zero⟩).2.2.cells.length ≤ 400 := by have := P4.out; have := HLEN.out; omega
  have hcl := hid (fun w hb => cells_any p q (endsf c 100 (HS.new h) ⟨l, 0, Acc.zero⟩).2.2 w hb (by omega))
  go_wp2_with fail
  refine hbk.out.mono ?_
  rintro e W4 ⟨rfl, rfl⟩
  go_wp2_with fail
  refine (hcl.out _ M5.out.bank).mono ?_
  rintro e W6 ⟨rfl, hq6, g6⟩
  have Q6 := hid hq6
  have M6 := hid (M5.out.gr g6)
  have B6 := hid (Blk.gr B5.out g6)
  have X6 := hid (Blk.gr X5.out g6)
  have G6 := hid (Gr.trans G5.out g6)
  have z6 : W3.heap.size < W6.heap.size := hq6.lt
  clear hq6 g6 B5 X5
  have hpos : 0 < l.length := by have := HLEN.out; have := (cells_pos c).2 HOK.out; omega
  obtain ⟨av, capv, rfl, hcv⟩ : ∃ (av : Addr) (capv : Nat), v = .slice (some av) l.length capv ∧ ∀ i, i < l.length → w.cell? (av.add i) = some (.int .u64 (l.getD i 0)) := by
    rcases HV.out with ⟨_, e⟩ | ⟨a, cap', e1, _, e2⟩
    · rw [e] at hpos; exact absurd hpos (by simp)
    · exact ⟨a, cap', e1, e2⟩
  have tlt : tc c h < l.length := by have := HLEN.out; omega
  have HCV := hid (hcv _ tlt)
  have hcel := hid (fun w => (cell_any c (hI h) 4 w).mono fun e w' hq => (⟨by rw [hq.1, TL1.out], hq.2⟩ : e = .returned (.int .i64 ((tc c h : Nat) : Int)) ∧ Gr w w'))
  unfold Cf.val at hcel
  have hne : Nonempty (St (Gr W6)) := ⟨⟨W6, Gr.refl _⟩⟩
  have x0 : ∀ s : St (Gr W6), s.val.cell? ⟨w.heap.size, 0, none⟩ = some (.int .i64 c.th) := fun s => (Blk.gr X6.out s.ok).cell rfl
  have x1 : ∀ s : St (Gr W6), s.val.cell? ⟨w.heap.size, 1, none⟩ = some (.int .i64 c.sl) := fun s => (Blk.gr X6.out s.ok).cell rfl
  have x2 : ∀ s : St (Gr W6), s.val.cell? ⟨w.heap.size, 2, none⟩ = some (.int .i64 c.cp) := fun s => (Blk.gr X6.out s.ok).cell rfl
  have x3 : ∀ s : St (Gr W6), s.val.cell? ⟨w.heap.size, 3, none⟩ = some (.int .i64 c.he) := fun s => (Blk.gr X6.out s.ok).cell rfl
  have x4 : ∀ s : St (Gr W6), s.val.cell? ⟨w.heap.size, 4, none⟩ = some (.int .i64 c.ke) := fun s => (Blk.gr X6.out s.ok).cell rfl
  have x5 : ∀ s : St (Gr W6), s.val.cell? ⟨w.heap.size, 5, none⟩ = some (.int .i64 c.ev) := fun s => (Blk.gr X6.out s.ok).cell rfl
  have x6 : ∀ s : St (Gr W6), s.val.cell? ⟨w.heap.size, 6, none⟩ = some (.int .i64 c.la) := fun s => (Blk.gr X6.out s.ok).cell rfl
  have xv : ∀ s : St (Gr W6), s.val.cell? (av.add (tc c h)) = some (.int .u64 (l.getD (tc c h) 0)) := fun s => Gr.cell (Gr.trans G6.out s.ok) HCV.out
  have tlt' : ((tc c h : Nat) : Int) < l.length := by omega
  have hnu := getD_u64 HU.out (tc c h)
  have hmn := HMN.out
  obtain ⟨hnu0, hnu1⟩ := hnu
  generalize l.getD (tc c h) 0 = n4 at *
  go_wp2_with fail
  refine wp_region_inv (Gr W6) (by kernel_rfl) (by kernel_rfl) (Gr.refl W6).drew ?_
  repeat (go_big_quiet_step (first | (go_at_call 29; (with_reducible exact Calls.st_gr (HIX.out _))) | (go_at_call 21; (with_reducible exact Calls.st_gr (hcel.out _)))))
  rw [show (if c.he < if n4 < 1 then 1 else n4 then c.he else if n4 < 1 then 1 else n4) = (T : Int) from hmn]
  generalize (if n4 < 1 then (1 : Int) else n4) = mxv
  refine wpQuiet_nil ?_
  rintro W7 ⟨⟨_, g7⟩, rfl⟩
  clear x0 x1 x2 x3 x4 x5 x6 xv hne hmn hnu0 hnu1
  have M7 := hid (M6.out.gr g7)
  have B7 := hid (Blk.gr B6.out g7)
  have Q7 := hid (Blk.gr Q6.out g7)
  have G7 := hid (Gr.trans G6.out g7)
  have z7 : W6.heap.size ≤ W7.heap.size := g7.size
  clear g7
  have hE2 := hid (fun w hH hm h1 h2 h3 => ends_any (w1.heap.size + 2) m p q c HOK.out (HS.new h) (endsf c 100 (HS.new h) ⟨l, 0, Acc.zero⟩).2.2 w 100 (by omega) hH hm h1 h2 h3 F1.out W2'.out)
  rw [P1.out] at hE2
  have hcast : ((T + 1 : Nat) : Int) = (T : Int) + 1 := by omega
  rw [hcast] at hE2
  clear hcast
  go_wp2_with fail
  refine (hE2.out W7 B7.out M7.out (by omega) (by omega) (by omega)).mono ?_
  rintro e W8 ⟨rfl, hA8, hM8, g8⟩
  have hTri : ∀ k, Tri (w1.heap.size + 2) p q k → w.heap.size ≤ k ∧ k ≠ W3.heap.size := by
    unfold Tri
    intro k hk
    have := ss
    have hx : ((w.alloc (.cells #[.int .i64 c.th, .int .i64 c.sl, .int .i64 c.cp, .int .i64 c.he, .int .i64 c.ke, .int .i64 c.ev, .int .i64 c.la] 23)).heap.size : Nat) = w.heap.size + 1 := by simp
    rcases hk with hk | hk | hk <;> omega
  have M8 := hid hM8
  have A8 := hid hA8
  have Q8 := hid (Blk.chg Q7.out g8 (fun hk => (hTri _ hk).2 rfl))
  have G8 := hid (Gr.step G7.out g8 (fun k hk => (hTri k hk).1))
  have z8 : W7.heap.size ≤ W8.heap.size := g8.size
  clear hTri hA8 hM8 g8
  have hbk2 := hid (mbank_any m p q c _ W8 M8.out)
  have hcl2 := hid (fun w hb => cells_any p q (endsf c 100 (HS.new h) (endsf c 100 (HS.new h) ⟨l, 0, Acc.zero⟩).2.2).2.2 w hb (by rw [P3.out]; omega))
  rw [P3.out] at hcl2
  have P2' := P2
  generalize (endsf c 100 (HS.new h) (endsf c 100 (HS.new h) ⟨l, 0, Acc.zero⟩).2.2) = R2 at *
  generalize (endsf c 100 (HS.new h) ⟨l, 0, Acc.zero⟩).2.2.cells = cs at *
  go_wp2_with fail
  refine hbk2.out.mono ?_
  rintro e W9 ⟨rfl, rfl⟩
  go_wp2_with fail
  refine (hcl2.out _ M8.out.bank).mono ?_
  rintro e Wa ⟨rfl, hqa, ga⟩
  have Qa := hid hqa
  have Qb := hid (Blk.gr Q8.out ga)
  have Aa := hid (Blk.gr A8.out ga)
  have Ga := hid (Gr.trans G8.out ga)
  clear hqa ga
  go_wp2_with fail
  go_loop [80] (fun i => ∃ k : Nat, k ≤ cs.length ∧ i = .int .i64 (k : Int)) (fun i => cs.length - (intOf i).toNat)
  case atStart => exact ⟨0, Nat.zero_le _, rfl⟩
  case round =>
    obtain ⟨k, hk, rfl⟩ := hrel
    by_cases hlt : k < cs.length
    · have hlt' : (k : Int) < cs.length := by omega
      have hk0 : 0 ≤ (k : Int) := by omega
      have q1 : Wa.cell? ⟨W8.heap.size, k, none⟩ = some (.int .u64 (cs.getD k 0)) := Qa.out.cell (by simp [wordsRow_get, List.getD, hlt])
      have q2 : Wa.cell? ⟨W3.heap.size, k, none⟩ = some (.int .u64 (cs.getD k 0)) := Qb.out.cell (by simp [wordsRow_get, List.getD, hlt])
      generalize cs.getD k 0 = x at *
      go_wp2
      go_round
      case rel => exact ⟨k + 1, by omega, by go_num⟩
      case measure => simp [intOf]; omega
    · have hge : ¬ (k : Int) < cs.length := by omega
      go_wp2_with fail
      refine (halive _).mono ?_
      rintro e Wc ⟨rfl, gc⟩
      have hdn := hid (hdone_yes (w1.heap.size + 2) R2.2.1 Wc (Blk.gr Aa.out gc) P2'.out)
      go_wp2_with fail
      refine hdn.out.mono ?_
      rintro e Wd ⟨rfl, rfl⟩
      go_wp2_with fail
      go_ret
      exact ⟨rfl, Gr.trans Ga.out gc⟩

theorem helpAgain_walk (c : Cf) (v : Value) (l : List Int) (h : Int) (hh : U64 h) (w : World) (hw : Words w v l) (hu : ∀ x ∈ l, U64 x) :
    Calls Try.prog 11 #[.agg #[.int .i64 c.th, .int .i64 c.sl, .int .i64 c.cp, .int .i64 c.he, .int .i64 c.ke, .int .i64 c.ev, .int .i64 c.la], v, .int .u64 h] w fun e w' => e = .returned (.bool true) ∧ Gr w w' := by
  by_cases hth : There c l
  · by_cases hi : hI h ≤ c.cp
    · exact again_main c v l h hh w hw hth hi hu
    · exact again_far c v l h hh w hw hth (by omega)
  · exact again_none c v l h hh w hw hth

theorem helpAgain_at {w : World} (a b c d e f g : Int) (v : Value) (l : List Int) (hw : Words w v l) (hl : l.length ≤ 17592186044416) (hu : ∀ x ∈ l, U64 x) (h : Int) (hh : U64 h) :
    Calls Try.prog 11 #[.agg #[.int .i64 a, .int .i64 b, .int .i64 c, .int .i64 d, .int .i64 e, .int .i64 f, .int .i64 g], v, .int .u64 h] w fun e w' => e = .returned (.bool true) ∧ Gr w w' :=
  helpAgain_walk ⟨a, b, c, d, e, f, g⟩ v l h hh w hw hu
end Go.Proofs.YthbkncklliiooaaH
