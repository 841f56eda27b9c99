/-
  What the reference's fields' cells are.
-/
import Derived.Test.YthbkncklliiooaaQx11
import Derived.Test.YthbkncklliiooaaQx19
import Derived.Test.YthbkncklliiooaaPub
import Derived.Test.YthbkncklliiooaaReg
namespace Go.Proofs.YthbkncklliiooaaH
set_option linter.unusedVariables false
set_option linter.unusedSimpArgs false
open Go.RowKit Go.Proofs.YthbkncklliiooaaW.PrintWords Go.Proofs.YthbkncklliiooaaW.PrintLast Go.Proofs.YthbkncklliiooaaW.PrintMore Go.Proofs.Ythbkncklliiooaa.Q

theorem ref_cell_f (c : Cf) (a b : Int) : stepstoneref04_Cell.f c.th c.sl c.cp c.he c.ke c.ev c.la a b = some (c.cel a b) := by
  unfold stepstoneref04_Cell.f Cf.cel
  rw [ref_right_f, Option.bind_some]
  by_cases h : c.Ok
  · obtain ⟨b0, b1, b2, b3, b4, b5⟩ := c.bounds h
    have hcp : 1 ≤ c.cp ∧ c.cp ≤ 64 := ⟨h.2.2.2.2.1, h.2.2.2.2.2.1⟩
    have he : 1 ≤ c.he ∧ c.he ≤ 6 := ⟨h.2.2.2.2.2.2.1, h.2.2.2.2.2.2.2.1⟩
    have hts := mul_bounds (a := c.th) (b := c.sl) (m := 8) (n := 8) (by have := h.1; omega) h.2.1 (by have := h.2.2.1; omega) h.2.2.2.1
    rw [if_pos (by simpa using h), w64 (x := 6 + c.he) (by omega) (by omega), w64 (x := c.th * c.sl) (by omega) (by omega), w64 (x := 1 + c.th * c.sl) (by omega) (by omega)]
    show (if a < 0 then some (-1) else if a > c.cp then some (-1) else if b < 0 then some (-1) else if b ≥ c.fields then some (-1) else some (wrap64 (wrap64 (c.first + wrap64 (a * c.fields)) + b))) = _
    by_cases ha : 0 ≤ a ∧ a ≤ c.cp
    · rw [if_neg (by omega), if_neg (by omega)]
      by_cases hb : 0 ≤ b ∧ b < c.fields
      · have hm := mul_bounds (a := a) (b := c.fields) (m := 64) (n := 12) (by omega) (by omega) (by omega) (by omega)
        rw [if_neg (by omega), if_neg (by omega), if_pos ⟨h, ha, hb⟩, w64 (x := a * c.fields) (by omega) (by omega), w64 (x := c.first + a * c.fields) (by omega) (by omega), w64 (by omega) (by omega)]
      · rw [if_neg (c := c.Ok ∧ _) (fun k => hb k.2.2)]
        by_cases hb0 : b < 0
        · rw [if_pos hb0]
        · rw [if_neg hb0, if_pos (by omega)]
    · rw [if_neg (c := c.Ok ∧ _) (fun k => ha k.2.1)]
      by_cases ha0 : a < 0
      · rw [if_pos ha0]
      · rw [if_neg ha0, if_pos (by omega)]
  · rw [if_neg (by simpa using h), if_neg (fun k => h k.1)]

end Go.Proofs.YthbkncklliiooaaH

namespace Go.Proofs.YthbkncklliiooaaH
set_option linter.unusedVariables false
set_option linter.unusedSimpArgs false
open Go.RowKit Go.Proofs.Ythbkncklliiooaa.Q

theorem Calls.st_gr {P : Program} {f : FuncId} {args : Array Value} {W : World} {s : St (Gr W)} {v : Value}
    (h : Calls P f args s.val fun e w' => e = .returned v ∧ Gr s.val w') : Calls P f args s.val fun e w'' => e = .returned v ∧ ∃ s' : St (Gr W), w'' = s'.val :=
  h.mono fun _ w' ⟨he, hi⟩ => ⟨he, ⟨w', s.ok.trans hi⟩, rfl⟩

theorem cell_any (c : Cf) (a b : Int) (w : World) : Calls Try.prog 21 #[c.val, .int .i64 a, .int .i64 b] w fun e w' => e = .returned (.int .i64 (c.cel a b)) ∧ Gr w w' :=
  plan_Cell.calls 1 c.th c.sl c.cp c.he c.ke c.ev c.la a b _ w (cell_f c a b 0)
theorem len_any (c : Cf) (w : World) : Calls Try.prog 18 #[c.val] w fun e w' => e = .returned (.int .i64 c.cells) ∧ Gr w w' :=
  plan_Len.calls c.th c.sl c.cp c.he c.ke c.ev c.la _ w (len_f c)
theorem right_any (c : Cf) (w : World) : Calls Try.prog 16 #[c.val] w fun e w' => e = .returned (.bool (decide c.Ok)) ∧ Gr w w' :=
  plan_Right.calls c.th c.sl c.cp c.he c.ke c.ev c.la _ w (right_f c)
theorem ref_right_any (c : Cf) (w : World) : Calls Try.prog 17 #[c.val] w fun e w' => e = .returned (.bool (decide c.Ok)) ∧ Gr w w' :=
  (stepstoneref04_Right.calls c.th c.sl c.cp c.he c.ke c.ev c.la _ w (ref_right_f c)).mono fun _ _ h => ⟨h.1, by first | exact h.2 | exact h.2.below⟩
theorem ref_len_any (c : Cf) (w : World) : Calls Try.prog 19 #[c.val] w fun e w' => e = .returned (.int .i64 c.cells) ∧ Gr w w' :=
  stepstoneref04_Len.calls c.th c.sl c.cp c.he c.ke c.ev c.la _ w (ref_len_f c)
end Go.Proofs.YthbkncklliiooaaH
