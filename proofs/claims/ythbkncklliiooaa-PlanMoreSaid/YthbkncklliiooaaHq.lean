/-
  The small world of the statements of the layer plan: where things stand in it.
-/
import Derived.Test.YthbkncklliiooaaQx10
import Derived.Test.YthbkncklliiooaaQx2
import Derived.Test.YthbkncklliiooaaPua
import Derived.Test.YthbkncklliiooaaHeap
import Derived.Laws.StructEq
namespace Go.Proofs.YthbkncklliiooaaH
set_option linter.unusedVariables false
set_option linter.unusedSimpArgs false
open Go.RowKit Go.Proofs.Ythbkncklliiooaa.Q
attribute [local go_sem high] eqA29

theorem field29_0 (a b c : Int) (w : World) : (Instr.field 29 (.agg #[.int .i64 a, .int .i64 b, .int .i64 c]) 0).run Try.prog w = .ok (.int .i64 a) w := by kernel_rfl
theorem field29_1 (a b c : Int) (w : World) : (Instr.field 29 (.agg #[.int .i64 a, .int .i64 b, .int .i64 c]) 1).run Try.prog w = .ok (.int .i64 b) w := by kernel_rfl
theorem field29_2 (a b c : Int) (w : World) : (Instr.field 29 (.agg #[.int .i64 a, .int .i64 b, .int .i64 c]) 2).run Try.prog w = .ok (.int .i64 c) w := by kernel_rfl

/-- A configuration in memory. -/
def CfAt (w : World) (b : Nat) (c : Cf) : Prop := Blk w b #[.int .i64 c.th, .int .i64 c.sl, .int .i64 c.cp, .int .i64 c.he, .int .i64 c.ke, .int .i64 c.ev, .int .i64 c.la] 23

theorem CfAt.c7 {w : World} {b : Nat} {c : Cf} (h : CfAt w b c) : w.cell? ⟨b, 0, none⟩ = some (.int .i64 c.th) ∧ w.cell? ⟨b, 1, none⟩ = some (.int .i64 c.sl) ∧ w.cell? ⟨b, 2, none⟩ = some (.int .i64 c.cp) ∧
    w.cell? ⟨b, 3, none⟩ = some (.int .i64 c.he) ∧ w.cell? ⟨b, 4, none⟩ = some (.int .i64 c.ke) ∧ w.cell? ⟨b, 5, none⟩ = some (.int .i64 c.ev) ∧ w.cell? ⟨b, 6, none⟩ = some (.int .i64 c.la) :=
  ⟨Blk.cell h rfl, Blk.cell h rfl, Blk.cell h rfl, Blk.cell h rfl, Blk.cell h rfl, Blk.cell h rfl, Blk.cell h rfl⟩

theorem CfAt.gr {w w' : World} {b : Nat} {c : Cf} (h : CfAt w b c) (g : Gr w w') : CfAt w' b c := Blk.gr h g

theorem Calls.gr {f : FuncId} {args : Array Value} {w : World} {e0 : Ending} (h : Calls Try.prog f args w fun e w' => e = e0 ∧ Below w.heap.size w w') : Calls Try.prog f args w fun e w' => e = e0 ∧ Gr w w' := h

set_option maxRecDepth 100000 in
set_option maxHeartbeats 4000000 in
theorem alive_given (w : World) : Calls Try.prog 15 #[] w fun e w' => e = .returned (.bool true) ∧ Below w.heap.size w w' := by
  have r1 := fun w => plan_Right.calls 2 2 3 2 1 1 9 true w ((right_f ⟨2, 2, 3, 2, 1, 1, 9⟩).trans (by decide))
  have r2 := fun w => plan_Right.calls 0 0 0 0 0 0 0 false w ((right_f ⟨0, 0, 0, 0, 0, 0, 0⟩).trans (by decide))
  have l1 := fun w => plan_Len.calls 2 2 3 2 1 1 9 37 w ((len_f ⟨2, 2, 3, 2, 1, 1, 9⟩).trans (by decide))
  have s1 := fun w => plan_Reserved.calls 2 2 3 2 1 1 9 1 0 3 w ((reserved_f ⟨2, 2, 3, 2, 1, 1, 9⟩ 1 0).trans (by decide))
  have s2 := fun w => plan_Reserved.calls 2 2 3 2 1 1 9 2 0 (-1) w ((reserved_f ⟨2, 2, 3, 2, 1, 1, 9⟩ 2 0).trans (by decide))
  have c1 := fun w => plan_Cell.calls 1 2 2 3 2 1 1 9 1 1 14 w ((cell_f ⟨2, 2, 3, 2, 1, 1, 9⟩ 1 1 0).trans (by decide))
  have c2 := fun w => plan_Cell.calls 1 2 2 3 2 1 1 9 4 0 (-1) w ((cell_f ⟨2, 2, 3, 2, 1, 1, 9⟩ 4 0 0).trans (by decide))
  have w1 := fun w => plan_Where.calls 2 2 3 2 1 1 9 36 3 3 7 w ((where_f ⟨2, 2, 3, 2, 1, 1, 9⟩ 36).trans (by decide))
  have w2 := fun w => plan_Where.calls 2 2 3 2 1 1 9 0 1 0 0 w ((where_f ⟨2, 2, 3, 2, 1, 1, 9⟩ 0).trans (by decide))
  have w3 := fun w => plan_Where.calls 2 2 3 2 1 1 9 37 0 0 0 w ((where_f ⟨2, 2, 3, 2, 1, 1, 9⟩ 37).trans (by decide))
  have h1 := fun w => stepstonelaw04_small.calls 2 2 3 2 1 1 9 w rfl
  have hf0 := field29_0
  have R1 := hid r1
  have R2 := hid r2
  have L1 := hid l1
  have S1 := hid s1
  have S2 := hid s2
  have C1 := hid c1
  have C2 := hid c2
  have W1 := hid w1
  have W2 := hid w2
  have W3 := hid w3
  have H1 := hid h1
  clear r1 r2 l1 s1 s2 c1 c2 w1 w2 w3 h1
  go_enter Try.func15, Try.ntmps15
  go_wp2_with fail
  refine (H1.out _).mono ?_
  rintro e W ⟨rfl, g1⟩
  go_wp2_with fail
  refine (R1.out _).mono ?_
  rintro e V0 ⟨rfl, k0⟩
  have X0 : CfAt V0 W.heap.size ⟨2, 2, 3, 2, 1, 1, 9⟩ := (Blk.new _ _ _).gr k0
  obtain ⟨x0, x1, x2, x3, x4, x5, x6⟩ := X0.c7
  simp only at x0 x1 x2 x3 x4 x5 x6
  have A0 := hid X0
  clear X0
  go_wp2_with fail
  refine (R2.out _).mono ?_
  rintro e V1 ⟨rfl, k1⟩
  have X1 := A0.out.gr k1
  clear x0 x1 x2 x3 x4 x5 x6 A0
  obtain ⟨x0, x1, x2, x3, x4, x5, x6⟩ := X1.c7
  simp only at x0 x1 x2 x3 x4 x5 x6
  have A1 := hid X1
  clear X1
  go_wp2_with fail
  refine (L1.out _).mono ?_
  rintro e V2 ⟨rfl, k2⟩
  have X2 := A1.out.gr k2
  clear x0 x1 x2 x3 x4 x5 x6 A1
  obtain ⟨x0, x1, x2, x3, x4, x5, x6⟩ := X2.c7
  simp only at x0 x1 x2 x3 x4 x5 x6
  have A2 := hid X2
  clear X2
  go_wp2_with fail
  refine (S1.out _).mono ?_
  rintro e V3 ⟨rfl, k3⟩
  have X3 := A2.out.gr k3
  clear x0 x1 x2 x3 x4 x5 x6 A2
  obtain ⟨x0, x1, x2, x3, x4, x5, x6⟩ := X3.c7
  simp only at x0 x1 x2 x3 x4 x5 x6
  have A3 := hid X3
  clear X3
  go_wp2_with fail
  refine (S2.out _).mono ?_
  rintro e V4 ⟨rfl, k4⟩
  have X4 := A3.out.gr k4
  clear x0 x1 x2 x3 x4 x5 x6 A3
  obtain ⟨x0, x1, x2, x3, x4, x5, x6⟩ := X4.c7
  simp only at x0 x1 x2 x3 x4 x5 x6
  have A4 := hid X4
  clear X4
  go_wp2_with fail
  refine (C1.out _).mono ?_
  rintro e V5 ⟨rfl, k5⟩
  have X5 := A4.out.gr k5
  clear x0 x1 x2 x3 x4 x5 x6 A4
  obtain ⟨x0, x1, x2, x3, x4, x5, x6⟩ := X5.c7
  simp only at x0 x1 x2 x3 x4 x5 x6
  have A5 := hid X5
  clear X5
  go_wp2_with fail
  refine (C2.out _).mono ?_
  rintro e V6 ⟨rfl, k6⟩
  have X6 := A5.out.gr k6
  clear x0 x1 x2 x3 x4 x5 x6 A5
  obtain ⟨x0, x1, x2, x3, x4, x5, x6⟩ := X6.c7
  simp only at x0 x1 x2 x3 x4 x5 x6
  have A6 := hid X6
  clear X6
  go_wp2_with fail
  refine (W1.out _).mono ?_
  rintro e V7 ⟨rfl, k7⟩
  have X7 := A6.out.gr k7
  clear x0 x1 x2 x3 x4 x5 x6 A6
  obtain ⟨x0, x1, x2, x3, x4, x5, x6⟩ := X7.c7
  simp only at x0 x1 x2 x3 x4 x5 x6
  have A7 := hid X7
  clear X7
  go_wp2_with fail
  refine (W2.out _).mono ?_
  rintro e V8 ⟨rfl, k8⟩
  have X8 := A7.out.gr k8
  clear x0 x1 x2 x3 x4 x5 x6 A7
  obtain ⟨x0, x1, x2, x3, x4, x5, x6⟩ := X8.c7
  simp only at x0 x1 x2 x3 x4 x5 x6
  have A8 := hid X8
  clear X8
  go_wp2_with fail
  refine (W3.out _).mono ?_
  rintro e V9 ⟨rfl, k9⟩
  have X9 := A8.out.gr k9
  clear x0 x1 x2 x3 x4 x5 x6 A8
  obtain ⟨x0, x1, x2, x3, x4, x5, x6⟩ := X9.c7
  simp only at x0 x1 x2 x3 x4 x5 x6
  have A9 := hid X9
  clear X9
  go_wp2_with fail
  refine (Go.Proofs.YthbkncklliiooaaH.head_given _).mono ?_
  rintro e V10 ⟨rfl, k10⟩
  go_wp2_with fail
  go_ret
  exact ⟨rfl, Gr.trans g1 (Gr.trans (((((((((((Gr.alloc (Gr.refl _) _).trans k0).trans k1).trans k2).trans k3).trans k4).trans k5).trans k6).trans k7).trans k8).trans k9) k10)⟩
end Go.Proofs.YthbkncklliiooaaH

namespace Go.Proofs.Ythbkncklliiooaa.Q
open Go.RowKit
def stepstonelaw04_alive.f : Option (Bool) := some true
theorem stepstonelaw04_alive.calls (r : Bool) (w : World) (h : stepstonelaw04_alive.f = some r) :
    Calls Try.prog 15 #[] w fun e w' => e = .returned (.bool r) ∧ Below w.heap.size w w' := by
  obtain rfl := Option.some.inj h
  exact Go.Proofs.YthbkncklliiooaaH.alive_given w
end Go.Proofs.Ythbkncklliiooaa.Q
