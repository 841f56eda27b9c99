/-
  What the printed functions of the layer plan compute.
-/
import Derived.Test.YthbkncklliiooaaQx6
import Derived.Test.YthbkncklliiooaaQx9
namespace Go.Proofs.YthbkncklliiooaaH
set_option linter.unusedVariables false
set_option linter.unusedSimpArgs false
open Go.RowKit Go.Proofs.YthbkncklliiooaaW.PrintWords Go.Proofs.YthbkncklliiooaaW.PrintLast Go.Proofs.YthbkncklliiooaaW.PrintMore Go.Proofs.Ythbkncklliiooaa.Q

/-- The first cell of the slots; the fields of each; how many cells there are. -/
def Cf.first (c : Cf) : Int := 1 + c.th * c.sl
def Cf.fields (c : Cf) : Int := 6 + c.he
def Cf.cells (c : Cf) : Int := if c.Ok then c.first + (c.cp + 1) * c.fields else 0
def Cf.res (c : Cf) (a b : Int) : Int := if c.Ok ∧ (0 ≤ a ∧ a < c.th) ∧ (0 ≤ b ∧ b < c.sl) then 1 + a * c.sl + b else -1
def Cf.cel (c : Cf) (a b : Int) : Int := if c.Ok ∧ (0 ≤ a ∧ a ≤ c.cp) ∧ (0 ≤ b ∧ b < c.fields) then c.first + a * c.fields + b else -1
/-- What a cell is, that there is. -/
def Cf.wh (c : Cf) (n : Int) : Int × Int × Int :=
  if n = 0 then (1, 0, 0) else if n < c.first then (2, (n - 1) / c.sl, (n - 1) % c.sl) else (3, (n - c.first) / c.fields, (n - c.first) % c.fields)
def Cf.whr (c : Cf) (n : Int) : Int × Int × Int := if 0 ≤ n ∧ n < c.cells then c.wh n else (0, 0, 0)

theorem mul_bounds {a b m n : Int} (ha : 0 ≤ a) (ham : a ≤ m) (hb : 0 ≤ b) (hbn : b ≤ n) : 0 ≤ a * b ∧ a * b ≤ m * n :=
  ⟨Int.mul_nonneg ha hb, Int.mul_le_mul ham hbn hb (by omega)⟩

theorem Cf.bounds (c : Cf) (h : c.Ok) : 2 ≤ c.first ∧ c.first ≤ 65 ∧ 7 ≤ c.fields ∧ c.fields ≤ 12 ∧ 0 ≤ (c.cp + 1) * c.fields ∧ (c.cp + 1) * c.fields ≤ 65 * 12 := by
  obtain ⟨h1, h2, h3, h4, h5, h6, h7, h8, -⟩ := h
  have hb := mul_bounds (by omega : 0 ≤ c.th) h2 (by omega : 0 ≤ c.sl) h4
  have hc := mul_bounds (a := c.cp + 1) (b := c.fields) (m := 65) (n := 12) (by omega) (by omega) (by unfold Cf.fields; omega) (by unfold Cf.fields; omega)
  have hd : 1 * 1 ≤ c.th * c.sl := Int.mul_le_mul h1 h3 (by omega) (by omega)
  refine ⟨?_, ?_, ?_, ?_, hc.1, hc.2⟩
  all_goals
    try unfold Cf.first
    try unfold Cf.fields
    omega

theorem w64 {x : Int} (h0 : -9223372036854775808 ≤ x) (h1 : x ≤ 9223372036854775807) : wrap64 x = x := by unfold wrap64; omega

theorem right_f (c : Cf) : plan_Right.f c.th c.sl c.cp c.he c.ke c.ev c.la = some (decide c.Ok) := rfl

theorem ref_right_f (c : Cf) : stepstoneref04_Right.f c.th c.sl c.cp c.he c.ke c.ev c.la = some (decide c.Ok) := by
  unfold stepstoneref04_Right.f
  by_cases h : c.Ok
  · rw [decide_eq_true h]
    obtain ⟨h1, h2, h3, h4, h5, h6, h7, h8, h9, h10, h11, h12, h13, h14⟩ := h
    rw [if_neg (by omega), if_neg (by omega), if_neg (by omega), if_neg (by omega), if_neg (by omega), if_neg (by omega), if_neg (by omega), if_neg (by omega), if_pos (by omega), if_pos (by omega), if_pos (by omega), if_pos (by omega), if_pos (by omega), decide_eq_true h14]
  · rw [decide_eq_false h]
    unfold Cf.Ok at h
    by_cases h0 : c.th < 1
    · rw [if_pos h0]
    rw [if_neg h0]
    by_cases h1 : c.th > 8
    · rw [if_pos h1]
    rw [if_neg h1]
    by_cases h2 : c.sl < 1
    · rw [if_pos h2]
    rw [if_neg h2]
    by_cases h3 : c.sl > 8
    · rw [if_pos h3]
    rw [if_neg h3]
    by_cases h4 : c.cp < 1
    · rw [if_pos h4]
    rw [if_neg h4]
    by_cases h5 : c.cp > 64
    · rw [if_pos h5]
    rw [if_neg h5]
    by_cases h6 : c.he < 1
    · rw [if_pos h6]
    rw [if_neg h6]
    by_cases h7 : c.he > 6
    · rw [if_pos h7]
    rw [if_neg h7]
    by_cases h8 : c.ke ≥ 1
    case neg => rw [if_neg h8]
    rw [if_pos h8]
    by_cases h9 : c.ke ≤ 64
    case neg => rw [if_neg h9]
    rw [if_pos h9]
    by_cases h10 : c.ev ≥ 1
    case neg => rw [if_neg h10]
    rw [if_pos h10]
    by_cases h11 : c.ev ≤ 64
    case neg => rw [if_neg h11]
    rw [if_pos h11]
    by_cases h12 : c.la ≥ 0
    case neg => rw [if_neg h12]
    rw [if_pos h12]
    congr 1
    exact decide_eq_false (by omega)

theorem first_f (c : Cf) (h : c.Ok) : plan_first.f c.th c.sl c.cp c.he c.ke c.ev c.la = some c.first := by
  obtain ⟨h1, h2, h3, h4, -⟩ := h
  have hb := mul_bounds (by omega : 0 ≤ c.th) h2 (by omega : 0 ≤ c.sl) h4
  unfold plan_first.f Cf.first
  rw [w64 (x := c.th * c.sl) (by omega) (by omega), w64 (by omega) (by omega)]

theorem fields_f (c : Cf) (h : c.Ok) : plan_fields.f c.th c.sl c.cp c.he c.ke c.ev c.la = some c.fields := by
  have h7 : 1 ≤ c.he := h.2.2.2.2.2.2.1
  have h8 : c.he ≤ 6 := h.2.2.2.2.2.2.2.1
  unfold plan_fields.f Cf.fields
  rw [w64 (by omega) (by omega)]

theorem within_f (n a b : Int) : plan_within.f n a b = some (decide (a ≤ n ∧ n ≤ b)) := by
  unfold plan_within.f
  by_cases h : n ≥ a
  · rw [if_pos h]
    congr 1
    rw [Bool.eq_iff_iff]
    simp only [decide_eq_true_eq]
    omega
  · rw [if_neg h]
    congr 1
    symm
    exact decide_eq_false fun k => h k.1

theorem len_f (c : Cf) : plan_Len.f c.th c.sl c.cp c.he c.ke c.ev c.la = some c.cells := by
  unfold plan_Len.f Cf.cells
  rw [right_f, Option.bind_some]
  by_cases h : c.Ok
  · obtain ⟨b0, b1, b2, b3, b4, b5⟩ := c.bounds h
    have hcp : 1 ≤ c.cp ∧ c.cp ≤ 64 := ⟨h.2.2.2.2.1, h.2.2.2.2.2.1⟩
    rw [if_pos (by simpa using h), if_pos h, first_f c h, Option.bind_some, fields_f c h, Option.bind_some, w64 (x := c.cp + 1) (by omega) (by omega), w64 (x := (c.cp + 1) * c.fields) (by omega) (by omega), w64 (by omega) (by omega)]
  · rw [if_neg (by simpa using h), if_neg h]

theorem ref_len_f (c : Cf) : stepstoneref04_Len.f c.th c.sl c.cp c.he c.ke c.ev c.la = some c.cells := by
  unfold stepstoneref04_Len.f Cf.cells
  rw [ref_right_f, Option.bind_some]
  by_cases h : c.Ok
  · obtain ⟨b0, b1, b2, b3, b4, b5⟩ := c.bounds h
    have hcp : 1 ≤ c.cp ∧ c.cp ≤ 64 := ⟨h.2.2.2.2.1, h.2.2.2.2.2.1⟩
    rw [if_pos (by simpa using h), if_pos h]
    unfold Cf.first Cf.fields at *
    rw [w64 (x := c.th * c.sl) (by omega) (by omega), w64 (x := 1 + c.th * c.sl) (by omega) (by omega), w64 (x := c.cp + 1) (by omega) (by omega), w64 (x := 6 + c.he) (by omega) (by omega), w64 (x := (c.cp + 1) * (6 + c.he)) (by omega) (by omega), w64 (by omega) (by omega)]
  · rw [if_neg (by simpa using h), if_neg h]

theorem cell_f (c : Cf) (a b : Int) (k : Nat) : plan_Cell.f (k + 1) c.th c.sl c.cp c.he c.ke c.ev c.la a b = some (c.cel a b) := by
  unfold plan_Cell.f Cf.cel
  rw [right_f, Option.bind_some]
  by_cases h : c.Ok
  · obtain ⟨b0, b1, b2, b3, b4, b5⟩ := c.bounds h
    have hcp : 1 ≤ c.cp ∧ c.cp ≤ 64 := ⟨h.2.2.2.2.1, h.2.2.2.2.2.1⟩
    rw [if_pos (by simpa using h), within_f, Option.bind_some]
    by_cases ha : 0 ≤ a ∧ a ≤ c.cp
    · rw [if_pos (by simp only [decide_eq_true_eq]; omega), fields_f c h, Option.bind_some, w64 (x := c.fields - 1) (by omega) (by omega), within_f, Option.bind_some]
      rw [plan_Cell.j0]
      by_cases hb : 0 ≤ b ∧ b < c.fields
      · have hm := mul_bounds (a := a) (b := c.fields) (m := 64) (n := 12) (by omega) (by omega) (by omega) (by omega)
        rw [if_neg (by simp only [Bool.not_eq_true', decide_eq_false_iff_not]; omega), first_f c h, Option.bind_some, fields_f c h, Option.bind_some, if_pos ⟨h, ha, hb⟩, w64 (x := a * c.fields) (by omega) (by omega), w64 (x := c.first + a * c.fields) (by omega) (by omega), w64 (by omega) (by omega)]
      · rw [if_pos (by simp only [Bool.not_eq_true', decide_eq_false_iff_not]; omega), if_neg (fun k => hb k.2.2)]
    · rw [if_neg (by simp only [decide_eq_true_eq]; omega), if_neg (fun k => ha k.2.1)]
      rw [plan_Cell.j0]
      rw [if_pos rfl]
  · rw [if_neg (by simpa using h), if_neg (fun k => h k.1)]
    rw [plan_Cell.j0]
    rw [if_pos rfl]

end Go.Proofs.YthbkncklliiooaaH
