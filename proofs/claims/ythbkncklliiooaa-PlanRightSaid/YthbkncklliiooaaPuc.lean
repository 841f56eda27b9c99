/-
  The pure statements of the layer plan.
-/
import Derived.Test.YthbkncklliiooaaQx12
import Derived.Test.YthbkncklliiooaaPub
namespace Go.Proofs.YthbkncklliiooaaH
set_option linter.unusedVariables false
set_option linter.unusedSimpArgs false
open Go.RowKit Go.Proofs.YthbkncklliiooaaW.PrintWords Go.Proofs.YthbkncklliiooaaW.PrintLast Go.Proofs.YthbkncklliiooaaW.PrintMore Go.Proofs.Ythbkncklliiooaa.Q

theorem planRight_f (c : Cf) : stepstonelaw04_PlanRight.f c.th c.sl c.cp c.he c.ke c.ev c.la = some true := by
  unfold stepstonelaw04_PlanRight.f stepstonelaw04_alive.f
  simp only [Option.bind_some, right_f, ref_right_f, len_f, ref_len_f, beq_self_eq_true, if_true, Option.some.injEq]
  by_cases h : c.Ok
  · have := (cells_pos c).2 h
    simp [h, this]
  · have e : c.cells = 0 := if_neg h
    simp [h, e]

theorem planRight_walk (c : Cf) (w : World) : Calls Try.prog 3 #[.agg #[.int .i64 c.th, .int .i64 c.sl, .int .i64 c.cp, .int .i64 c.he, .int .i64 c.ke, .int .i64 c.ev, .int .i64 c.la]] w fun e w' => e = .returned (.bool true) ∧ Below w.heap.size w w' :=
  stepstonelaw04_PlanRight.calls c.th c.sl c.cp c.he c.ke c.ev c.la true w (planRight_f c)
end Go.Proofs.YthbkncklliiooaaH
