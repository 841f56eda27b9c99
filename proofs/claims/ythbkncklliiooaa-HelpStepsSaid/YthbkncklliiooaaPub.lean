/-
  Where things stand in a world: numbers alone.
-/
import Derived.Test.YthbkncklliiooaaPua
namespace Go.Proofs.YthbkncklliiooaaH
set_option linter.unusedVariables false
set_option linter.unusedSimpArgs false

theorem split_div {a b n : Int} (hn : 0 < n) (hb : 0 ≤ b) (hb' : b < n) : (a * n + b) / n = a ∧ (a * n + b) % n = b := by
  constructor
  · rw [Int.add_comm, Int.add_mul_ediv_right _ _ (by omega), Int.ediv_eq_zero_of_lt hb hb']; omega
  · rw [Int.add_comm, Int.add_mul_emod_self_right, Int.emod_eq_of_lt hb hb']

theorem div_back {m n : Int} (hn : 0 < n) : (m / n) * n + m % n = m := by
  have := Int.mul_ediv_add_emod m n
  rw [Int.mul_comm] at this
  exact this

theorem mul_lt {a b n m : Int} (hn : 0 < n) (ha : a < m) (hb' : b < n) : a * n + b < m * n := by
  have h : (a + 1) * n ≤ m * n := Int.mul_le_mul_of_nonneg_right (by omega) (by omega)
  rw [Int.add_mul] at h
  omega

theorem Cf.cells_ok (c : Cf) (h : c.Ok) : c.cells = c.first + (c.cp + 1) * c.fields := if_pos h

theorem res_yes (c : Cf) {a b : Int} (h : c.Ok) (ha : 0 ≤ a ∧ a < c.th) (hb : 0 ≤ b ∧ b < c.sl) : c.res a b = 1 + a * c.sl + b ∧ 1 ≤ c.res a b ∧ c.res a b < c.first ∧ c.res a b < c.cells := by
  have e : c.res a b = 1 + a * c.sl + b := if_pos ⟨h, ha, hb⟩
  obtain ⟨b0, b1, b2, b3, b4, b5⟩ := c.bounds h
  have h1 := mul_lt (a := a) (b := b) (n := c.sl) (m := c.th) (by omega) ha.2 hb.2
  have h2 : 0 ≤ a * c.sl := Int.mul_nonneg ha.1 (by omega)
  have hc := c.cells_ok h
  rw [e]
  unfold Cf.first at *
  omega

theorem cel_yes (c : Cf) {a b : Int} (h : c.Ok) (ha : 0 ≤ a ∧ a ≤ c.cp) (hb : 0 ≤ b ∧ b < c.fields) : c.cel a b = c.first + a * c.fields + b ∧ c.first ≤ c.cel a b ∧ c.cel a b < c.cells := by
  have e : c.cel a b = c.first + a * c.fields + b := if_pos ⟨h, ha, hb⟩
  obtain ⟨b0, b1, b2, b3, b4, b5⟩ := c.bounds h
  have h1 := mul_lt (a := a) (b := b) (n := c.fields) (m := c.cp + 1) (by omega) (by omega) hb.2
  have h2 : 0 ≤ a * c.fields := Int.mul_nonneg ha.1 (by omega)
  have hc := c.cells_ok h
  rw [e]
  omega

theorem res_cases (c : Cf) (a b : Int) : c.res a b = -1 ∨ c.Ok ∧ (0 ≤ a ∧ a < c.th) ∧ (0 ≤ b ∧ b < c.sl) := by
  by_cases h : c.Ok ∧ (0 ≤ a ∧ a < c.th) ∧ (0 ≤ b ∧ b < c.sl)
  · exact .inr h
  · exact .inl (if_neg h)

theorem cel_cases (c : Cf) (a b : Int) : c.cel a b = -1 ∨ c.Ok ∧ (0 ≤ a ∧ a ≤ c.cp) ∧ (0 ≤ b ∧ b < c.fields) := by
  by_cases h : c.Ok ∧ (0 ≤ a ∧ a ≤ c.cp) ∧ (0 ≤ b ∧ b < c.fields)
  · exact .inr h
  · exact .inl (if_neg h)

theorem whr_res (c : Cf) {a b : Int} (h : 0 ≤ c.res a b) : c.whr (c.res a b) = (2, a, b) := by
  rcases res_cases c a b with e | ⟨ho, ha, hb⟩
  · omega
  · obtain ⟨e, h1, h2, h3⟩ := res_yes c ho ha hb
    have hs : 0 < c.sl := by omega
    obtain ⟨d1, d2⟩ := split_div (a := a) hs hb.1 hb.2
    unfold Cf.whr Cf.wh
    rw [if_pos ⟨h, h3⟩, if_neg (by omega), if_pos h2, e, show 1 + a * c.sl + b - 1 = a * c.sl + b by omega, d1, d2]

theorem whr_cel (c : Cf) {a b : Int} (h : 0 ≤ c.cel a b) : c.whr (c.cel a b) = (3, a, b) := by
  rcases cel_cases c a b with e | ⟨ho, ha, hb⟩
  · omega
  · obtain ⟨e, h1, h3⟩ := cel_yes c ho ha hb
    obtain ⟨b0, b1, b2, b3, b4, b5⟩ := c.bounds ho
    have hs : 0 < c.fields := by omega
    obtain ⟨d1, d2⟩ := split_div (a := a) hs hb.1 hb.2
    unfold Cf.whr Cf.wh
    rw [if_pos ⟨h, h3⟩, if_neg (by omega), if_neg (by omega), e, show c.first + a * c.fields + b - c.first = a * c.fields + b by omega, d1, d2]

/-- What a cell is stands there. -/
theorem wh_back (c : Cf) (ho : c.Ok) {n : Int} (h0 : 0 ≤ n) (h1 : n < c.cells) :
    (n = 0 ∧ c.wh n = (1, 0, 0)) ∨ (∃ a b, c.wh n = (2, a, b) ∧ c.res a b = n) ∨ (∃ a b, c.wh n = (3, a, b) ∧ c.cel a b = n) := by
  obtain ⟨b0, b1, b2, b3, b4, b5⟩ := c.bounds ho
  have hc := c.cells_ok ho
  have hsl : 0 < c.sl := by have := ho.2.2.1; omega
  unfold Cf.wh
  by_cases hz : n = 0
  · rw [if_pos hz]; exact .inl ⟨hz, rfl⟩
  · rw [if_neg hz]
    by_cases hf : n < c.first
    · rw [if_pos hf]
      refine .inr (.inl ⟨_, _, rfl, ?_⟩)
      have q := div_back (m := n - 1) hsl
      have p0 : 0 ≤ (n - 1) / c.sl := Int.ediv_nonneg (by omega) (by omega)
      have p1 : 0 ≤ (n - 1) % c.sl := Int.emod_nonneg _ (by omega)
      have p2 : (n - 1) % c.sl < c.sl := Int.emod_lt_of_pos _ hsl
      have p3 : (n - 1) / c.sl < c.th := Int.ediv_lt_of_lt_mul hsl (by unfold Cf.first at hf; omega)
      rw [(res_yes c ho ⟨p0, p3⟩ ⟨p1, p2⟩).1]
      omega
    · rw [if_neg hf]
      refine .inr (.inr ⟨_, _, rfl, ?_⟩)
      have hfp : 0 < c.fields := by omega
      have q := div_back (m := n - c.first) hfp
      have p0 : 0 ≤ (n - c.first) / c.fields := Int.ediv_nonneg (by omega) (by omega)
      have p1 : 0 ≤ (n - c.first) % c.fields := Int.emod_nonneg _ (by omega)
      have p2 : (n - c.first) % c.fields < c.fields := Int.emod_lt_of_pos _ hfp
      have p3 : (n - c.first) / c.fields < c.cp + 1 := Int.ediv_lt_of_lt_mul hfp (by omega)
      rw [(cel_yes c ho ⟨p0, by omega⟩ ⟨p1, p2⟩).1]
      omega

theorem cel_inj (c : Cf) {a b a' b' : Int} (h : 0 ≤ c.cel a b) (e : c.cel a b = c.cel a' b') : a = a' ∧ b = b' := by
  have h1 := whr_cel c h
  have h2 := whr_cel c (a := a') (b := b') (by omega)
  rw [← e, h1] at h2
  simp only [Prod.mk.injEq, true_and] at h2
  exact h2

theorem res_inj (c : Cf) {a b a' b' : Int} (h : 0 ≤ c.res a b) (e : c.res a b = c.res a' b') : a = a' ∧ b = b' := by
  have h1 := whr_res c h
  have h2 := whr_res c (a := a') (b := b') (by omega)
  rw [← e, h1] at h2
  simp only [Prod.mk.injEq, true_and] at h2
  exact h2

theorem cel_ne_res (c : Cf) {a b a' b' : Int} (h : 0 ≤ c.cel a b) : c.cel a b ≠ c.res a' b' := by
  intro e
  have h1 := whr_cel c h
  have h2 := whr_res c (a := a') (b := b') (by omega)
  rw [← e, h1] at h2
  simp at h2

theorem cel_pos (c : Cf) {a b : Int} (h : 0 ≤ c.cel a b) : c.cel a b ≠ 0 := by
  rcases cel_cases c a b with e | ⟨ho, ha, hb⟩
  · omega
  · obtain ⟨e, h1, h3⟩ := cel_yes c ho ha hb
    obtain ⟨b0, b1, b2, b3, b4, b5⟩ := c.bounds ho
    omega

theorem res_pos (c : Cf) {a b : Int} : c.res a b ≠ 0 := by
  rcases res_cases c a b with e | ⟨ho, ha, hb⟩
  · omega
  · obtain ⟨e, h1, h2, h3⟩ := res_yes c ho ha hb
    omega

theorem cells_pos (c : Cf) : 0 < c.cells ↔ c.Ok := by
  by_cases h : c.Ok
  · obtain ⟨b0, b1, b2, b3, b4, b5⟩ := c.bounds h
    have hc := c.cells_ok h
    exact ⟨fun _ => h, fun _ => by omega⟩
  · have : c.cells = 0 := if_neg h
    exact ⟨fun k => by omega, fun k => absurd k h⟩
end Go.Proofs.YthbkncklliiooaaH
