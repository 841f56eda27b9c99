/-
  The walk of the statements' 'does', and the statement that an access changes no other cell.
-/
import Derived.Test.YtojlaekckkelhaaBf
namespace Go.Proofs.Ytojlaekckkelhaa
set_option linter.unusedVariables false
set_option linter.unusedSimpArgs false
open Go.RowKit

/-- What an op does to a bank, and what it tells. -/
def Bk.does (B : Bk) (k c via old v : Int) : Bk := if k = 1 then B.load c via else if k = 2 then B.store c via v else if k = 3 then B.swap c via old v else if k = 4 then B.add c via v else B
def Bk.doesV (B : Bk) (k c via old v : Int) : Int := if k = 1 then (B.load c via).last.old else if k = 4 then (B.add c via v).last.old else 0
def Bk.doesIs (B : Bk) (k c via old v : Int) : Bool := if k = 3 then (B.swap c via old v).last.done else false

def opv (k c via old v : Int) : Value := .agg #[.int .i64 k, .int .i64 c, .int .u64 via, .int .u64 old, .int .u64 v]

/-- What an op leaves. -/
def Does (w : World) (p q : Nat) (B : Bk) (r : Int) (is : Bool) (e : Ending) (w' : World) : Prop := e = .returned (.tuple #[.int .u64 r, .bool is]) ∧ IsBank w' p q B ∧ Chg (Two p q) w w'

set_option maxHeartbeats 1000000 in
theorem does_any (p q : Nat) (B : Bk) (k c via old v : Int) (w : World) (hb : IsBank w p q B) :
    Calls Try.prog 39 #[.pointer (some ⟨p, 0, none⟩), opv k c via old v] w (Does w p q (B.does k c via old v) (B.doesV k c via old v) (B.doesIs k c via old v)) := by
  unfold opv
  have HB := hid hb
  clear hb
  by_cases k1 : k = 1
  · have e1 : B.does k c via old v = B.load c via := if_pos k1
    have e2 : B.doesV k c via old v = (B.load c via).last.old := if_pos k1
    have e3 : B.doesIs k c via old v = false := if_neg (by omega)
    rw [e1, e2, e3]
    subst k1
    clear e1 e2 e3
    go_enter Try.func39, Try.ntmps39
    go_wp2_with fail
    refine (load_any p q B c via _ (HB.out.gr ((Gr.refl w).alloc _))).mono ?_
    rintro e w1 ⟨rfl, b1, c1⟩
    go_wp2_with fail
    go_ret2
    exact ⟨rfl, b1, ((Gr.refl w).alloc _).chg.trans c1⟩
  · by_cases k2 : k = 2
    · have e1 : B.does k c via old v = B.store c via v := by subst k2; rfl
      have e2 : B.doesV k c via old v = 0 := by subst k2; rfl
      have e3 : B.doesIs k c via old v = false := if_neg (by omega)
      rw [e1, e2, e3]
      subst k2
      clear e1 e2 e3 k1
      go_enter Try.func39, Try.ntmps39
      go_wp2_with fail
      refine (store_any p q B c via v _ (HB.out.gr ((Gr.refl w).alloc _))).mono ?_
      rintro e w1 ⟨rfl, b1, c1⟩
      go_wp2_with fail
      go_ret2
      exact ⟨rfl, b1, ((Gr.refl w).alloc _).chg.trans c1⟩
    · by_cases k3 : k = 3
      · have e1 : B.does k c via old v = B.swap c via old v := by subst k3; rfl
        have e2 : B.doesV k c via old v = 0 := by subst k3; rfl
        have e3 : B.doesIs k c via old v = (B.swap c via old v).last.done := by subst k3; rfl
        rw [e1, e2, e3]
        subst k3
        clear e1 e2 e3 k1 k2
        go_enter Try.func39, Try.ntmps39
        go_wp2_with fail
        refine (swap_any p q B c via old v _ (HB.out.gr ((Gr.refl w).alloc _))).mono ?_
        rintro e w1 ⟨rfl, b1, c1⟩
        go_wp2_with fail
        go_ret2
        exact ⟨rfl, b1, ((Gr.refl w).alloc _).chg.trans c1⟩
      · by_cases k4 : k = 4
        · have e1 : B.does k c via old v = B.add c via v := by subst k4; rfl
          have e2 : B.doesV k c via old v = (B.add c via v).last.old := by subst k4; rfl
          have e3 : B.doesIs k c via old v = false := by subst k4; rfl
          rw [e1, e2, e3]
          subst k4
          clear e1 e2 e3 k1 k2 k3
          go_enter Try.func39, Try.ntmps39
          go_wp2_with fail
          refine (add_any p q B c via v _ (HB.out.gr ((Gr.refl w).alloc _))).mono ?_
          rintro e w1 ⟨rfl, b1, c1⟩
          go_wp2_with fail
          go_ret2
          exact ⟨rfl, b1, ((Gr.refl w).alloc _).chg.trans c1⟩
        · have e1 : B.does k c via old v = B := by unfold Bk.does; rw [if_neg k1, if_neg k2, if_neg k3, if_neg k4]
          have e2 : B.doesV k c via old v = 0 := by unfold Bk.doesV; rw [if_neg k1, if_neg k4]
          have e3 : B.doesIs k c via old v = false := by unfold Bk.doesIs; rw [if_neg k3]
          rw [e1, e2, e3]
          have f1 : (k == 1) = false := by simpa using k1
          have f2 : (k == 2) = false := by simpa using k2
          have f3 : (k == 3) = false := by simpa using k3
          have f4 : (k == 4) = false := by simpa using k4
          clear e1 e2 e3 k1 k2 k3 k4
          go_enter Try.func39, Try.ntmps39
          go_wp2_with fail
          go_ret2
          exact ⟨rfl, HB.out.gr ((Gr.refl w).alloc _), ((Gr.refl w).alloc _).chg⟩

theorem Bk.cells_done (B : Bk) (kind : Int) (n : Nat) (via had v : Int) (is : Bool) : (B.done kind n via had v is).cells = B.cells.set n v := rfl

/-- An op keeps how many cells there are, and all others. -/
theorem does_others (B : Bk) (k c via old v : Int) : (B.does k c via old v).cells.length = B.cells.length ∧
    ∀ j : Nat, (B.does k c via old v).cells.getD j 0 = B.cells.getD j 0 ∨ ((j : Int) = c ∧ k ≠ 1 ∧ (k = 3 → B.doesIs k c via old v = true)) := by
  have key : ∀ (j : Nat) (x : Int), B.has c = true → (B.cells.set c.toNat x).getD j 0 = B.cells.getD j 0 ∨ (j : Int) = c := by
    intro j x h
    have hc := of_decide_eq_true h
    by_cases hj : (j : Int) = c
    · exact .inr hj
    · refine .inl ?_
      simp only [List.getD_eq_getElem?_getD]
      rw [List.getElem?_set_ne (by omega)]
  unfold Bk.does Bk.doesIs
  split
  · rename_i k1
    unfold Bk.load
    split
    · rename_i h
      refine ⟨by simp [Bk.cells_done], fun j => .inl ?_⟩
      have hc := of_decide_eq_true h
      simp only [Bk.cells_done, List.getD_eq_getElem?_getD, Bk.get]
      by_cases hj : c.toNat = j
      · subst hj
        rw [List.getElem?_set_self (by omega)]
        simp
      · rw [List.getElem?_set_ne hj]
    · exact ⟨rfl, fun j => .inl rfl⟩
  · rename_i k1
    split
    · unfold Bk.store
      split
      · rename_i k2 h
        exact ⟨by simp [Bk.cells_done], fun j => (key j _ h).imp id fun e => ⟨e, k1, fun k3 => by omega⟩⟩
      · exact ⟨rfl, fun j => .inl rfl⟩
    · split
      · rename_i k2 k3
        unfold Bk.swap
        split
        · rename_i h
          refine ⟨by simp [Bk.cells_done], fun j => ?_⟩
          by_cases hs : B.get c = old
          · refine (key j _ h).imp id fun e => ⟨e, k1, fun _ => ?_⟩
            show swapIs old (B.get c) = true
            simp [swapIs, hs]
          · have e1 : swapTo old v (B.get c) = B.get c := if_neg hs
            rw [e1]
            have hc := of_decide_eq_true h
            refine .inl ?_
            simp only [Bk.cells_done, List.getD_eq_getElem?_getD, Bk.get]
            by_cases hj : c.toNat = j
            · subst hj
              rw [List.getElem?_set_self (by omega)]
              simp
            · rw [List.getElem?_set_ne hj]
        · exact ⟨rfl, fun j => .inl rfl⟩
      · split
        · rename_i k2 k3 k4
          unfold Bk.add
          split
          · rename_i h
            exact ⟨by simp [Bk.cells_done], fun j => (key j _ h).imp id fun e => ⟨e, k1, fun k3 => by omega⟩⟩
          · exact ⟨rfl, fun j => .inl rfl⟩
        · exact ⟨rfl, fun j => .inl rfl⟩
end Go.Proofs.Ytojlaekckkelhaa
