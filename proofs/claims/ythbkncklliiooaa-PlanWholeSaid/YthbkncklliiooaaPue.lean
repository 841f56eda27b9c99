/-
  All cells, in order, as the document has them.
-/
import Derived.Test.YthbkncklliiooaaQx15
import Derived.Test.YthbkncklliiooaaPub
namespace Go.Proofs.YthbkncklliiooaaH
set_option linter.unusedVariables false
set_option linter.unusedSimpArgs false
open Go.RowKit Go.Proofs.YthbkncklliiooaaW.PrintWords Go.Proofs.YthbkncklliiooaaW.PrintLast Go.Proofs.YthbkncklliiooaaW.PrintMore Go.Proofs.Ythbkncklliiooaa.Q

def Cf.pl (c : Cf) (n : Int) : S32 := ⟨(c.wh n).1, (c.wh n).2.1, (c.wh n).2.2⟩
/-- The first cells. -/
def Cf.row (c : Cf) (m : Nat) : List S32 := (List.range m).map fun k : Nat => c.pl (k : Int)
theorem Cf.row_len (c : Cf) (m : Nat) : (c.row m).length = m := by simp [Cf.row]
theorem Cf.row_snoc (c : Cf) (m : Nat) : c.row (m + 1) = c.row m ++ [c.pl m] := by simp [Cf.row, List.range_succ]
theorem Cf.row_at (c : Cf) {m k : Nat} (h : k < m) : rd_T32 (c.row m) k = c.pl k := by
  unfold rd_T32 Cf.row
  simp [List.getD, h]

section
variable (c : Cf) (h : c.Ok)
include h
theorem places_l3_end (i f : Nat) (L : List S32) (hf : c.fields ≤ f) (k : Nat) (r : List S32)
    (hn : stepstoneref04_Places.l2 k L (wrap64 (i + 1)) c.th c.sl c.cp c.he c.ke c.ev c.la = some r) :
    stepstoneref04_Places.l3 (k + 1) L i f c.th c.sl c.cp c.he c.ke c.ev c.la = some r := by
  rw [stepstoneref04_Places.l3]
  have he : 1 ≤ c.he ∧ c.he ≤ 6 := ⟨h.2.2.2.2.2.2.1, h.2.2.2.2.2.2.2.1⟩
  rw [w64 (x := 6 + c.he) (by omega) (by omega), if_neg (by unfold Cf.fields at hf; omega)]
  exact hn

theorem places_l3_step (i f : Nat) (L : List S32) (hL : L.length < 2000) (hf : (f : Int) < c.fields) (k : Nat) (r : List S32)
    (hn : stepstoneref04_Places.l3 k (L ++ [⟨3, i, f⟩]) i ((f + 1 : Nat) : Int) c.th c.sl c.cp c.he c.ke c.ev c.la = some r) :
    stepstoneref04_Places.l3 (k + 1) L i f c.th c.sl c.cp c.he c.ke c.ev c.la = some r := by
  rw [stepstoneref04_Places.l3]
  have he : 1 ≤ c.he ∧ c.he ≤ 6 := ⟨h.2.2.2.2.2.2.1, h.2.2.2.2.2.2.2.1⟩
  unfold Cf.fields at hf
  rw [w64 (x := 6 + c.he) (by omega) (by omega), if_pos (by omega), if_pos (by omega), w64 (x := (f : Int) + 1) (by omega) (by omega)]
  exact hn

omit h in
theorem places_l1_end (t s : Nat) (L : List S32) (hs : c.sl ≤ s) (k : Nat) (r : List S32)
    (hn : stepstoneref04_Places.l0 k L (wrap64 (t + 1)) c.th c.sl c.cp c.he c.ke c.ev c.la = some r) :
    stepstoneref04_Places.l1 (k + 1) L t s c.th c.sl c.cp c.he c.ke c.ev c.la = some r := by
  rw [stepstoneref04_Places.l1, if_neg (by omega)]
  exact hn

theorem places_l1_step (t s : Nat) (L : List S32) (hL : L.length < 2000) (hs : (s : Int) < c.sl) (k : Nat) (r : List S32)
    (hn : stepstoneref04_Places.l1 k (L ++ [⟨2, t, s⟩]) t ((s + 1 : Nat) : Int) c.th c.sl c.cp c.he c.ke c.ev c.la = some r) :
    stepstoneref04_Places.l1 (k + 1) L t s c.th c.sl c.cp c.he c.ke c.ev c.la = some r := by
  have h4 := h.2.2.2.1
  rw [stepstoneref04_Places.l1, if_pos (by omega), if_pos (by omega), w64 (x := (s : Int) + 1) (by omega) (by omega)]
  exact hn

/-- A slot's fields, from one on. -/
theorem places_l3 (d : Nat) : ∀ (i f : Nat) (m : Nat) (r : List S32), (f : Int) + d = c.fields → (m : Int) = c.first + i * c.fields + f → (i : Int) ≤ c.cp →
    (∃ k, stepstoneref04_Places.l2 k (c.row (m + d)) ((i + 1 : Nat) : Int) c.th c.sl c.cp c.he c.ke c.ev c.la = some r) →
    ∃ k, stepstoneref04_Places.l3 k (c.row m) i f c.th c.sl c.cp c.he c.ke c.ev c.la = some r := by
  induction d with
  | zero =>
    intro i f m r hd hm hi ⟨k, hk⟩
    have hcp := h.2.2.2.2.2.1
    refine ⟨k + 1, places_l3_end c h i f _ (by omega) k r ?_⟩
    rw [w64 (x := (i : Int) + 1) (by omega) (by omega)]
    exact hk
  | succ d ih =>
    intro i f m r hd hm hi hk
    obtain ⟨b0, b1, b2, b3, b4, b5⟩ := c.bounds h
    have hcp := h.2.2.2.2.2.1
    have hb := mul_bounds (a := (i : Int)) (b := c.fields) (m := 64) (n := 12) (by omega) (by omega) (by omega) (by omega)
    have e : c.row (m + 1) = c.row m ++ [⟨3, (i : Int), (f : Int)⟩] := by
      have hsp := split_div (a := (i : Int)) (b := (f : Int)) (n := c.fields) (by omega) (by omega) (by omega)
      rw [Cf.row_snoc]
      unfold Cf.pl Cf.wh
      rw [if_neg (by omega), if_neg (by omega), show (m : Int) - c.first = i * c.fields + f by omega, hsp.1, hsp.2]
    obtain ⟨k, hk'⟩ := ih i (f + 1) (m + 1) r (by omega) (by omega) hi (by rwa [show m + 1 + d = m + (d + 1) by omega])
    refine ⟨k + 1, places_l3_step c h i f _ (by rw [Cf.row_len]; omega) (by omega) k r ?_⟩
    rw [← e]
    exact hk'

theorem places_l2 (d : Nat) : ∀ (i : Nat) (m : Nat), (i : Int) + d = c.cp + 1 → (m : Int) = c.first + i * c.fields →
    ∃ k, stepstoneref04_Places.l2 k (c.row m) i c.th c.sl c.cp c.he c.ke c.ev c.la = some (c.row c.cells.toNat) := by
  induction d with
  | zero =>
    intro i m hd hm
    refine ⟨1, ?_⟩
    rw [stepstoneref04_Places.l2, if_neg (by omega)]
    have e : (i : Int) = c.cp + 1 := by omega
    have e2 := c.cells_ok h
    rw [e] at hm
    rw [show c.cells.toNat = m by omega]
  | succ d ih =>
    intro i m hd hm
    obtain ⟨b0, b1, b2, b3, b4, b5⟩ := c.bounds h
    obtain ⟨n, hn⟩ := Int.eq_ofNat_of_zero_le (by omega : 0 ≤ c.fields)
    have e1 : ((i + 1 : Nat) : Int) * c.fields = i * c.fields + c.fields := by rw [Int.natCast_add, Int.add_mul]; omega
    obtain ⟨k, hk⟩ := places_l3 c h n i 0 m (c.row c.cells.toNat) (by omega) (by omega) (by omega) (ih (i + 1) (m + n) (by omega) (by rw [e1]; omega))
    refine ⟨k + 1, ?_⟩
    rw [stepstoneref04_Places.l2, if_pos (by omega)]
    exact hk

/-- A thread's reservations, from one on. -/
theorem places_l1 (d : Nat) : ∀ (t s : Nat) (m : Nat) (r : List S32), (s : Int) + d = c.sl → (m : Int) = 1 + t * c.sl + s → (t : Int) < c.th →
    (∃ k, stepstoneref04_Places.l0 k (c.row (m + d)) ((t + 1 : Nat) : Int) c.th c.sl c.cp c.he c.ke c.ev c.la = some r) →
    ∃ k, stepstoneref04_Places.l1 k (c.row m) t s c.th c.sl c.cp c.he c.ke c.ev c.la = some r := by
  induction d with
  | zero =>
    intro t s m r hd hm ht ⟨k, hk⟩
    have hth := h.2.1
    refine ⟨k + 1, places_l1_end c t s _ (by omega) k r ?_⟩
    rw [w64 (x := (t : Int) + 1) (by omega) (by omega)]
    exact hk
  | succ d ih =>
    intro t s m r hd hm ht hk
    obtain ⟨b0, b1, b2, b3, b4, b5⟩ := c.bounds h
    have hth := h.2.1
    have hsl := h.2.2.2.1
    have hsl' := h.2.2.1
    have hb := mul_bounds (a := (t : Int)) (b := c.sl) (m := 8) (n := 8) (by omega) (by omega) (by omega) (by omega)
    have hlt := mul_lt (a := (t : Int)) (b := (s : Int)) (n := c.sl) (m := c.th) (by omega) ht (by omega)
    have e : c.row (m + 1) = c.row m ++ [⟨2, (t : Int), (s : Int)⟩] := by
      have hsp := split_div (a := (t : Int)) (b := (s : Int)) (n := c.sl) (by omega) (by omega) (by omega)
      rw [Cf.row_snoc]
      unfold Cf.pl Cf.wh
      rw [if_neg (by omega), if_pos (by unfold Cf.first; omega), show (m : Int) - 1 = t * c.sl + s by omega, hsp.1, hsp.2]
    obtain ⟨k, hk'⟩ := ih t (s + 1) (m + 1) r (by omega) (by omega) ht (by rwa [show m + 1 + d = m + (d + 1) by omega])
    refine ⟨k + 1, places_l1_step c h t s _ (by rw [Cf.row_len]; omega) (by omega) k r ?_⟩
    rw [← e]
    exact hk'

theorem places_l0 (d : Nat) : ∀ (t : Nat) (m : Nat), (t : Int) + d = c.th → (m : Int) = 1 + t * c.sl →
    ∃ k, stepstoneref04_Places.l0 k (c.row m) t c.th c.sl c.cp c.he c.ke c.ev c.la = some (c.row c.cells.toNat) := by
  induction d with
  | zero =>
    intro t m hd hm
    obtain ⟨b0, b1, b2, b3, b4, b5⟩ := c.bounds h
    have hcp := h.2.2.2.2.1
    have e : (t : Int) = c.th := by omega
    rw [e] at hm
    obtain ⟨n, hn⟩ := Int.eq_ofNat_of_zero_le (by omega : 0 ≤ c.cp + 1)
    obtain ⟨k, hk⟩ := places_l2 c h n 0 m (by omega) (by unfold Cf.first; omega)
    refine ⟨k + 1, ?_⟩
    rw [stepstoneref04_Places.l0, if_neg (by omega)]
    exact hk
  | succ d ih =>
    intro t m hd hm
    have hsl' := h.2.2.1
    obtain ⟨n, hn⟩ := Int.eq_ofNat_of_zero_le (by omega : 0 ≤ c.sl)
    have e1 : ((t + 1 : Nat) : Int) * c.sl = t * c.sl + c.sl := by rw [Int.natCast_add, Int.add_mul]; omega
    obtain ⟨k, hk⟩ := places_l1 c h n t 0 m (c.row c.cells.toNat) (by omega) (by omega) (by omega) (ih (t + 1) (m + n) (by omega) (by rw [e1]; omega))
    refine ⟨k + 1, ?_⟩
    rw [stepstoneref04_Places.l0, if_pos (by omega)]
    exact hk
end

theorem places_f (c : Cf) : ∃ k, stepstoneref04_Places.f k c.th c.sl c.cp c.he c.ke c.ev c.la = some (c.row c.cells.toNat) := by
  by_cases h : c.Ok
  · have h1 := h.1
    obtain ⟨n, hn⟩ := Int.eq_ofNat_of_zero_le (by omega : 0 ≤ c.th)
    obtain ⟨k, hk⟩ := places_l0 c h n 0 1 (by omega) (by omega)
    refine ⟨k, ?_⟩
    unfold stepstoneref04_Places.f
    rw [ref_right_f, Option.bind_some, if_pos (by simpa using h)]
    exact hk
  · refine ⟨0, ?_⟩
    unfold stepstoneref04_Places.f
    rw [ref_right_f, Option.bind_some, if_neg (by simpa using h)]
    have : c.cells = 0 := if_neg h
    rw [this]; rfl

theorem places_ev (c : Cf) : Ev (fun k => stepstoneref04_Places.f k c.th c.sl c.cp c.he c.ke c.ev c.la) (c.row c.cells.toNat) := by
  obtain ⟨k, hk⟩ := places_f c
  exact Ev.of (g := fun k => stepstoneref04_Places.f k c.th c.sl c.cp c.he c.ke c.ev c.la) (stepstoneref04_Places.mono _ _ _ _ _ _ _) hk
end Go.Proofs.YthbkncklliiooaaH
