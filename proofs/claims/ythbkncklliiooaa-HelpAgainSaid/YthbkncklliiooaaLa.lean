/-
  HelpAgain: the walk.
-/
import Derived.Test.YthbkncklliiooaaHv
import Derived.Test.YthbkncklliiooaaLc
namespace Go.Proofs.YthbkncklliiooaaH
set_option linter.unusedVariables false
set_option linter.unusedSimpArgs false
open Go.RowKit Go.Proofs.YthbkncklliiooaaW.PrintWords Go.Proofs.YthbkncklliiooaaW.PrintLast Go.Proofs.YthbkncklliiooaaW.PrintMore
attribute [local go_sem] max2_int min2_int

set_option maxRecDepth 100000 in
set_option maxHeartbeats 8000000 in
theorem again_none (c : Cf) (v : Value) (l : List Int) (h : Int) (hh : U64 h) (w : World) (hw : Words w v l) (hno : ¬ There c l) :
    Calls Try.prog 11 #[.agg #[.int .i64 c.th, .int .i64 c.sl, .int .i64 c.cp, .int .i64 c.he, .int .i64 c.ke, .int .i64 c.ev, .int .i64 c.la], v, .int .u64 h] w fun e w' => e = .returned (.bool true) ∧ Gr w w' := by
  have hl := fun w hw => lof_no c v l w hw hno
  unfold Cf.val zeroMem at hl
  have HL := hid hl
  have HW := hid hw
  clear hl hw hno
  go_enter Try.func11, Try.ntmps11
  go_wp2_with fail
  refine (HL.out _ (HW.out.gr ((Gr.refl w).alloc _))).mono ?_
  rintro e w1 ⟨rfl, g1⟩
  have AX := hid (Blk.gr (Blk.new w #[.int .i64 c.th, .int .i64 c.sl, .int .i64 c.cp, .int .i64 c.he, .int .i64 c.ke, .int .i64 c.ev, .int .i64 c.la] 23) g1)
  have G1 := hid (Gr.trans ((Gr.refl w).alloc _) g1)
  clear g1
  go_wp2_with fail
  refine (hnew_any h _).mono ?_
  rintro e w2 ⟨rfl, rfl⟩
  go_wp2_with fail
  refine (hnew_any h _).mono ?_
  rintro e w3 ⟨rfl, rfl⟩
  have GG := hid (((G1.out.alloc (.cells #[.int .i64 0, .int .i64 0, .int .i64 0, .int .i64 0, .int .i64 0, .int .i64 0, .int .i64 0, .slice none 0 0, .int .i64 0, .int .i64 0, .int .i64 0, .int .u64 0, .int .u64 0, .int .u64 0, .bool false] 50)).alloc (.cells (helpRow (HS.new h)) 98)).alloc (.cells (helpRow (HS.new h)) 98))
  have AX2 := hid (AX.out.gr ((((Gr.refl w1).alloc (.cells #[.int .i64 0, .int .i64 0, .int .i64 0, .int .i64 0, .int .i64 0, .int .i64 0, .int .i64 0, .slice none 0 0, .int .i64 0, .int .i64 0, .int .i64 0, .int .u64 0, .int .u64 0, .int .u64 0, .bool false] 50)).alloc (.cells (helpRow (HS.new h)) 98)).alloc (.cells (helpRow (HS.new h)) 98)))
  clear AX
  have AX := hid AX2.out
  clear AX2
  generalize (((w1.alloc (.cells #[.int .i64 0, .int .i64 0, .int .i64 0, .int .i64 0, .int .i64 0, .int .i64 0, .int .i64 0, .slice none 0 0, .int .i64 0, .int .i64 0, .int .i64 0, .int .u64 0, .int .u64 0, .int .u64 0, .bool false] 50)).alloc (.cells (helpRow (HS.new h)) 98)).alloc (.cells (helpRow (HS.new h)) 98)) = W at *
  have hne : Nonempty (St (Gr W)) := ⟨⟨W, Gr.refl _⟩⟩
  have x0 : ∀ s : St (Gr W), s.val.cell? ⟨w.heap.size, 0, none⟩ = some (.int .i64 c.th) := fun s => (Blk.gr AX.out s.ok).cell rfl
  have x1 : ∀ s : St (Gr W), s.val.cell? ⟨w.heap.size, 1, none⟩ = some (.int .i64 c.sl) := fun s => (Blk.gr AX.out s.ok).cell rfl
  have x2 : ∀ s : St (Gr W), s.val.cell? ⟨w.heap.size, 2, none⟩ = some (.int .i64 c.cp) := fun s => (Blk.gr AX.out s.ok).cell rfl
  have x3 : ∀ s : St (Gr W), s.val.cell? ⟨w.heap.size, 3, none⟩ = some (.int .i64 c.he) := fun s => (Blk.gr AX.out s.ok).cell rfl
  have x4 : ∀ s : St (Gr W), s.val.cell? ⟨w.heap.size, 4, none⟩ = some (.int .i64 c.ke) := fun s => (Blk.gr AX.out s.ok).cell rfl
  have x5 : ∀ s : St (Gr W), s.val.cell? ⟨w.heap.size, 5, none⟩ = some (.int .i64 c.ev) := fun s => (Blk.gr AX.out s.ok).cell rfl
  have x6 : ∀ s : St (Gr W), s.val.cell? ⟨w.heap.size, 6, none⟩ = some (.int .i64 c.la) := fun s => (Blk.gr AX.out s.ok).cell rfl
  go_wp2_with fail
  refine wp_region_inv (Gr W) (by kernel_rfl) (by kernel_rfl) (Gr.refl W).drew ?_
  repeat (go_big_quiet_step (fail))
  refine wpQuiet_nil ?_
  rintro W2 ⟨⟨_, g2⟩, rfl⟩
  clear x0 x1 x2 x3 x4 x5 x6 hne
  go_wp2_with fail
  refine (halive _).mono ?_
  rintro e W3 ⟨rfl, g3⟩
  go_wp2_with fail
  go_ret
  exact ⟨rfl, Gr.trans GG.out (Gr.trans g2 g3)⟩

set_option maxRecDepth 100000 in
set_option maxHeartbeats 8000000 in
theorem again_far (c : Cf) (v : Value) (l : List Int) (h : Int) (hh : U64 h) (w : World) (hw : Words w v l) (hth : There c l) (hbig : c.cp < hI h) :
    Calls Try.prog 11 #[.agg #[.int .i64 c.th, .int .i64 c.sl, .int .i64 c.cp, .int .i64 c.he, .int .i64 c.ke, .int .i64 c.ev, .int .i64 c.la], v, .int .u64 h] w fun e w' => e = .returned (.bool true) ∧ Gr w w' := by
  have hd : decide (c.cp < hI h) = true := by simpa using hbig
  have hix0 : hI h ≤ 4294967295 := by unfold hI; omega
  have hl := fun w hw => lof_yes c v l w hw hth
  unfold Cf.val MadeBoth refMem Acc.zero at hl
  have HL := hid hl
  have HW := hid hw
  have hix := index_any h hh
  have HIX := hid hix
  clear hl hw hix
  go_enter Try.func11, Try.ntmps11
  go_wp2_with fail
  refine (HL.out _ (HW.out.gr ((Gr.refl w).alloc _))).mono ?_
  rintro e w1 ⟨m, p, q, g, cap, rfl, hm, hwr, g1, ⟨sm, sp, sq, sg⟩, hapart, hglt⟩
  have AX := hid (Blk.gr (Blk.new w #[.int .i64 c.th, .int .i64 c.sl, .int .i64 c.cp, .int .i64 c.he, .int .i64 c.ke, .int .i64 c.ev, .int .i64 c.la] 23) g1)
  have G1 := hid (Gr.trans ((Gr.refl w).alloc _) g1)
  have M1 := hid hm
  have SS := hid (⟨sm, sp, sq, sg⟩ : _ ∧ _ ∧ _ ∧ _)
  have mlt : m < w1.heap.size := hm.mem.lt
  have plt : p < w1.heap.size := hm.bank.head.lt
  have qlt : q < w1.heap.size := hm.bank.row.lt
  clear g1 hm hwr sm sp sq sg hapart hglt
  go_wp2_with fail
  refine (hnew_any h _).mono ?_
  rintro e w2 ⟨rfl, rfl⟩
  go_wp2_with fail
  refine (hnew_any h _).mono ?_
  rintro e w3 ⟨rfl, rfl⟩
  have GG := hid (((G1.out.alloc (.cells #[.int .i64 c.th, .int .i64 c.sl, .int .i64 c.cp, .int .i64 c.he, .int .i64 c.ke, .int .i64 c.ev, .int .i64 c.la, .slice (some ⟨g, 0, none⟩) l.length cap, .int .i64 0, .int .i64 0, .int .i64 0, .int .u64 0, .int .u64 0, .int .u64 0, .bool false] 50)).alloc (.cells (helpRow (HS.new h)) 98)).alloc (.cells (helpRow (HS.new h)) 98))
  have AX2 := hid (AX.out.gr ((((Gr.refl w1).alloc (.cells #[.int .i64 c.th, .int .i64 c.sl, .int .i64 c.cp, .int .i64 c.he, .int .i64 c.ke, .int .i64 c.ev, .int .i64 c.la, .slice (some ⟨g, 0, none⟩) l.length cap, .int .i64 0, .int .i64 0, .int .i64 0, .int .u64 0, .int .u64 0, .int .u64 0, .bool false] 50)).alloc (.cells (helpRow (HS.new h)) 98)).alloc (.cells (helpRow (HS.new h)) 98)))
  have M3 := hid (M1.out.gr ((((Gr.refl w1).alloc (.cells #[.int .i64 c.th, .int .i64 c.sl, .int .i64 c.cp, .int .i64 c.he, .int .i64 c.ke, .int .i64 c.ev, .int .i64 c.la, .slice (some ⟨g, 0, none⟩) l.length cap, .int .i64 0, .int .i64 0, .int .i64 0, .int .u64 0, .int .u64 0, .int .u64 0, .bool false] 50)).alloc (.cells (helpRow (HS.new h)) 98)).alloc (.cells (helpRow (HS.new h)) 98)))
  have A1 : Hid (Blk (((w1.alloc (.cells #[.int .i64 c.th, .int .i64 c.sl, .int .i64 c.cp, .int .i64 c.he, .int .i64 c.ke, .int .i64 c.ev, .int .i64 c.la, .slice (some ⟨g, 0, none⟩) l.length cap, .int .i64 0, .int .i64 0, .int .i64 0, .int .u64 0, .int .u64 0, .int .u64 0, .bool false] 50)).alloc (.cells (helpRow (HS.new h)) 98)).alloc (.cells (helpRow (HS.new h)) 98)) (w1.heap.size + 1) (helpRow (HS.new h)) 98) := hid ((Blk.new' (by simp)).alloc _)
  have A2 : Hid (Blk (((w1.alloc (.cells #[.int .i64 c.th, .int .i64 c.sl, .int .i64 c.cp, .int .i64 c.he, .int .i64 c.ke, .int .i64 c.ev, .int .i64 c.la, .slice (some ⟨g, 0, none⟩) l.length cap, .int .i64 0, .int .i64 0, .int .i64 0, .int .u64 0, .int .u64 0, .int .u64 0, .bool false] 50)).alloc (.cells (helpRow (HS.new h)) 98)).alloc (.cells (helpRow (HS.new h)) 98)) (w1.heap.size + 2) (helpRow (HS.new h)) 98) := hid (Blk.new' (by simp))
  have e1 : (w1.alloc (.cells #[.int .i64 c.th, .int .i64 c.sl, .int .i64 c.cp, .int .i64 c.he, .int .i64 c.ke, .int .i64 c.ev, .int .i64 c.la, .slice (some ⟨g, 0, none⟩) l.length cap, .int .i64 0, .int .i64 0, .int .i64 0, .int .u64 0, .int .u64 0, .int .u64 0, .bool false] 50)).heap.size = w1.heap.size + 1 := by simp
  have e2 : ((w1.alloc (.cells #[.int .i64 c.th, .int .i64 c.sl, .int .i64 c.cp, .int .i64 c.he, .int .i64 c.ke, .int .i64 c.ev, .int .i64 c.la, .slice (some ⟨g, 0, none⟩) l.length cap, .int .i64 0, .int .i64 0, .int .i64 0, .int .u64 0, .int .u64 0, .int .u64 0, .bool false] 50)).alloc (.cells (helpRow (HS.new h)) 98)).heap.size = w1.heap.size + 2 := by simp
  rw [e2]
  clear AX e1 e2
  have AX := hid AX2.out
  clear AX2
  generalize (((w1.alloc (.cells #[.int .i64 c.th, .int .i64 c.sl, .int .i64 c.cp, .int .i64 c.he, .int .i64 c.ke, .int .i64 c.ev, .int .i64 c.la, .slice (some ⟨g, 0, none⟩) l.length cap, .int .i64 0, .int .i64 0, .int .i64 0, .int .u64 0, .int .u64 0, .int .u64 0, .bool false] 50)).alloc (.cells (helpRow (HS.new h)) 98)).alloc (.cells (helpRow (HS.new h)) 98)) = W at *
  have hne : Nonempty (St (Gr W)) := ⟨⟨W, Gr.refl _⟩⟩
  have x0 : ∀ s : St (Gr W), s.val.cell? ⟨w.heap.size, 0, none⟩ = some (.int .i64 c.th) := fun s => (Blk.gr AX.out s.ok).cell rfl
  have x1 : ∀ s : St (Gr W), s.val.cell? ⟨w.heap.size, 1, none⟩ = some (.int .i64 c.sl) := fun s => (Blk.gr AX.out s.ok).cell rfl
  have x2 : ∀ s : St (Gr W), s.val.cell? ⟨w.heap.size, 2, none⟩ = some (.int .i64 c.cp) := fun s => (Blk.gr AX.out s.ok).cell rfl
  have x3 : ∀ s : St (Gr W), s.val.cell? ⟨w.heap.size, 3, none⟩ = some (.int .i64 c.he) := fun s => (Blk.gr AX.out s.ok).cell rfl
  have x4 : ∀ s : St (Gr W), s.val.cell? ⟨w.heap.size, 4, none⟩ = some (.int .i64 c.ke) := fun s => (Blk.gr AX.out s.ok).cell rfl
  have x5 : ∀ s : St (Gr W), s.val.cell? ⟨w.heap.size, 5, none⟩ = some (.int .i64 c.ev) := fun s => (Blk.gr AX.out s.ok).cell rfl
  have x6 : ∀ s : St (Gr W), s.val.cell? ⟨w.heap.size, 6, none⟩ = some (.int .i64 c.la) := fun s => (Blk.gr AX.out s.ok).cell rfl
  go_wp2_with fail
  refine wp_region_inv (Gr W) (by kernel_rfl) (by kernel_rfl) (Gr.refl W).drew ?_
  repeat (go_big_quiet_step ((go_at_call 29; (with_reducible exact Calls.st_gr (HIX.out _)))))
  refine wpQuiet_nil ?_
  rintro W2 ⟨⟨_, g2⟩, rfl⟩
  clear x0 x1 x2 x3 x4 x5 x6 hne
  go_wp2_with fail
  refine (halive _).mono ?_
  rintro e W3 ⟨rfl, g3⟩
  go_wp2_with fail
  go_ret
  exact ⟨rfl, Gr.trans GG.out (Gr.trans g2 g3)⟩

end Go.Proofs.YthbkncklliiooaaH
