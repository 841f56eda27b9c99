/-
  The walks of the layer handle.
-/
import Derived.Test.YthbkncklliiooaaProg
import Derived.Test.YthbkncklliiooaaHw
import Derived.WalkKit
import Derived.WalkSpells
import Derived.WalkLawsBesides
import Derived.Deep.QuietTactic
import Derived.BigQuiet
import Derived.Outline
import Derived.ChangeKeysEq
namespace Go.Proofs.YthbkncklliiooaaH
set_option linter.unusedVariables false
set_option linter.unusedSimpArgs false
open Go.RowKit

theorem hid {p : Prop} (h : p) : Hid p := h
theorem ret_int {k : IntKind} {a b : Int} (h : a = b) : Ending.returned (.int k a) = .returned (.int k b) := by rw [h]
theorem ret_bool {a b : Bool} (h : a = b) : Ending.returned (.bool a) = .returned (.bool b) := by rw [h]

theorem u64_of {a : Int} (h : (Lit.int .u64 a).wf = true) : U64 a := by
  have h1 : IntKind.u64.min = 0 := rfl
  have h2 : IntKind.u64.max = 18446744073709551615 := rfl
  simp only [Lit.wf, Bool.and_eq_true, decide_eq_true_eq] at h
  exact ⟨by omega, by omega⟩

/-- What was there when it began is as it was. -/
def Gr (w w' : World) : Prop := Below w.heap.size w w'
theorem Gr.refl (w : World) : Gr w w := Below.refl _ _
theorem Gr.trans {a b c : World} (h : Gr a b) (k : Gr b c) : Gr a c := Below.trans h (Below.mono k h.size)
theorem Gr.alloc {a b : World} (h : Gr a b) (o : Obj) : Gr a (b.alloc o) := Below.alloc h h.size o
theorem Gr.drew {a b : World} (h : Gr a b) : Gr a b.drew := Below.drew h
theorem Gr.drewN {a b : World} (h : Gr a b) (n : Nat) : Gr a (b.drewN n) := ⟨h.os, h.tape, h.output, h.size, h.block⟩
theorem Gr.setCell {a b : World} (h : Gr a b) {p : Addr} (hp : a.heap.size ≤ p.block) (u : Value) : Gr a (b.setCell p u) := Below.setCell h hp u

set_option maxHeartbeats 400000 in
theorem within_any (n m : Int) (w : World) :
    Calls Try.prog 89 #[.int .i64 n, .int .i64 m] w fun e w' => e = .returned (.int .i64 (max 0 (min n m))) ∧ w = w' := by
  go_enter Try.func89, Try.ntmps89
  go_wp2
  all_goals
    go_ret
    exact ⟨ret_int (by omega), rfl⟩

set_option maxHeartbeats 400000 in
theorem mark_any (a : Int) (h : U64 a) (w : World) :
    Calls Try.prog 47 #[.int .u64 a] w fun e w' => e = .returned (.int .u64 (hMk a)) ∧ w = w' := by
  go_enter Try.func47, Try.ntmps47
  go_wp2
  go_ret
  exact ⟨ret_int (bits_or62 h), rfl⟩

set_option maxHeartbeats 400000 in
theorem plain_any (a : Int) (h : U64 a) (w : World) :
    Calls Try.prog 43 #[.int .u64 a] w fun e w' => e = .returned (.int .u64 (hPl a)) ∧ w = w' := by
  go_enter Try.func43, Try.ntmps43
  go_wp2
  go_ret
  exact ⟨ret_int (bits_andNot62 h), rfl⟩

set_option maxHeartbeats 400000 in
theorem marked_any (a : Int) (h : U64 a) (w : World) :
    Calls Try.prog 39 #[.int .u64 a] w fun e w' => e = .returned (.bool (hM a)) ∧ w = w' := by
  go_enter Try.func39, Try.ntmps39
  go_wp2
  go_ret
  exact ⟨ret_bool (bits_marked h), rfl⟩

set_option maxHeartbeats 400000 in
theorem index_any (a : Int) (h : U64 a) (w : World) :
    Calls Try.prog 29 #[.int .u64 a] w fun e w' => e = .returned (.int .i64 (hI a)) ∧ Gr w w' := by
  have hmf : ∀ (fn : Fn) (first cap : Array Value) (w : World), (Instr.makeFunc fn first cap).run Try.prog w = .ok (.func fn first cap) w := fun _ _ _ _ => rfl
  go_enter Try.func29, Try.ntmps29
  go_wp2
  go_quiet (fail)
  go_wp2
  go_ret
  exact ⟨ret_int (bits_low32 h), (((Gr.refl _).alloc _).alloc _).drewN _⟩


theorem eqin_pair (x y x' y' : Int) (w : World) : (Op.equalIn 10000 35 (.agg #[.int .i64 x, .int .i64 y]) (.agg #[.int .i64 x', .int .i64 y'])).run Try.prog w = .ok (x == x' && y == y') w := by
  obtain ⟨i, hi⟩ : ∃ i, Try.prog.info? 3 = some i := Option.isSome_iff_exists.1 (by kernel_rfl)
  rw [run_equalIn_array w 9999 _ _ Try.underlying35 hi]
  have e1 : Try.prog.cellsOf 3 = 1 := by kernel_rfl
  rw [e1]
  have hp0 : ∀ (w : World) (a b : Value), (part 3 #[a, b] 0).run Try.prog w = .ok a w := fun w a b => run_part_plain w (by kernel_rfl) rfl
  have hp1 : ∀ (w : World) (a b : Value), (part 3 #[a, b] 1).run Try.prog w = .ok b w := fun w a b => run_part_plain w (by kernel_rfl) rfl
  have he : ∀ (w : World) (a b : Int), (Op.equalIn 9999 3 (.int .i64 a) (.int .i64 b)).run Try.prog w = .ok (a == b) w := fun w a b => run_equalIn_int w 9998 3 .i64 .i64 a b Try.underlying3
  have hr : List.range 2 = [0, 1] := rfl
  rw [hr]
  simp only [Op.eqItems, Sem.run_bind, Nat.zero_mul, Nat.one_mul, hp0, hp1, Result.andThen_ok, he]
  by_cases hx : x = x' <;> by_cases hy : y = y' <;> simp [hp0, hp1, he, hx, hy]

theorem neq_pair (x y x' y' : Int) (w : World) : (binOp .neq 35 (.agg #[.int .i64 x, .int .i64 y]) (.agg #[.int .i64 x', .int .i64 y'])).run Try.prog w = .ok (.bool (!(x == x' && y == y'))) w := by
  rw [run_neq_struct, eqin_pair]; rfl

theorem eql_pair (x y x' y' : Int) (w : World) : (binOp .eql 35 (.agg #[.int .i64 x, .int .i64 y]) (.agg #[.int .i64 x', .int .i64 y'])).run Try.prog w = .ok (.bool (x == x' && y == y')) w := by
  rw [run_eql_struct, eqin_pair]; rfl

theorem may_of {i g : Int} (h : hMay i g = true) : (0 ≤ i ∧ i ≤ 4294967295) ∧ (0 ≤ g ∧ g ≤ 1073741823) := of_decide_eq_true h

set_option maxHeartbeats 400000 in
theorem pack_no (i g : Int) (m : Bool) (h : hMay i g = false) (w : World) :
    Calls Try.prog 74 #[.int .i64 i, .int .i64 g, .bool m] w fun e w' => e = .returned (.tuple #[.int .u64 0, .bool false]) ∧ Gr w w' := by
  have hn : (!(max 0 (min i 4294967295) == i && max 0 (min g 1073741823) == g)) = true := by
    unfold hMay at h
    have h1 := of_decide_eq_false h
    simp only [Bool.not_eq_true', Bool.and_eq_false_iff, beq_eq_false_iff_ne, ne_eq]
    omega
  have hq := fun w => (neq_pair (max 0 (min i 4294967295)) (max 0 (min g 1073741823)) i g w).trans (by rw [hn])
  clear hn
  go_enter Try.func74, Try.ntmps74
  go_wp2_with (first | (go_at_call 89; refine (within_any _ _ _).mono ?_; rintro e w' ⟨rfl, rfl⟩))
  go_ret2
  exact ⟨rfl, ((Gr.refl _).alloc _)⟩

set_option maxHeartbeats 400000 in
theorem pack_yes (i g : Int) (m : Bool) (h : hMay i g = true) (w : World) :
    Calls Try.prog 74 #[.int .i64 i, .int .i64 g, .bool m] w fun e w' => e = .returned (.tuple #[.int .u64 (hPk i g m), .bool true]) ∧ Gr w w' := by
  have hb := may_of h
  have hn : (!(max 0 (min i 4294967295) == i && max 0 (min g 1073741823) == g)) = false := by
    simp only [Bool.not_eq_false', Bool.and_eq_true, beq_iff_eq]
    omega
  have hq := fun w => (neq_pair (max 0 (min i 4294967295)) (max 0 (min g 1073741823)) i g w).trans (by rw [hn])
  obtain ⟨⟨hi0, hi1⟩, hg0, hg1⟩ := hb
  clear hn h
  go_enter Try.func74, Try.ntmps74
  go_wp2_with (first | (go_at_call 89; refine (within_any _ _ _).mono ?_; rintro e w' ⟨rfl, rfl⟩))
  have i0 : ∀ w : World, (Instr.index 139 (.agg #[.int .u64 9223372036854775808, .int .u64 (g * 4294967296), .int .u64 i]) (.int .i64 0)).run Try.prog w = .ok (.int .u64 9223372036854775808) w := fun _ => by kernel_rfl
  have i1 : ∀ w : World, (Instr.index 139 (.agg #[.int .u64 9223372036854775808, .int .u64 (g * 4294967296), .int .u64 i]) (.int .i64 1)).run Try.prog w = .ok (.int .u64 (g * 4294967296)) w := fun _ => by kernel_rfl
  have i2 : ∀ w : World, (Instr.index 139 (.agg #[.int .u64 9223372036854775808, .int .u64 (g * 4294967296), .int .u64 i]) (.int .i64 2)).run Try.prog w = .ok (.int .u64 i) w := fun _ => by kernel_rfl
  go_loop [9, 28] (fun t n => ∃ k : Nat, k ≤ 3 ∧ n = .int .i64 k ∧ t = .int .u64 (pkTo g i k)) (fun _ n => 3 - (intOf n).toNat)
  case atStart => exact ⟨0, Nat.zero_le _, rfl, rfl⟩
  case round =>
    obtain ⟨k, hk, rfl, rfl⟩ := hrel
    have hk5 : k = 0 ∨ k = 1 ∨ k = 2 ∨ k = 3 := by omega
    have o0 := pk_or0 g i
    have o1 := pk_or1 (g := g) i hg0 hg1
    have o2 := pk_or2 hg0 hg1 hi0 hi1
    rcases hk5 with rfl | rfl | rfl | rfl
    · go_wp2
      go_round
      case rel => exact ⟨1, by omega, rfl, rfl⟩
      case measure => simp [intOf]
    · go_wp2
      go_round
      case rel => exact ⟨2, by omega, rfl, rfl⟩
      case measure => simp [intOf]
    · go_wp2
      go_round
      case rel => exact ⟨3, by omega, rfl, rfl⟩
      case measure => simp [intOf]
    · have hu := pk_u64 hg0 hg1 hi0 hi1
      have HM := hid (pk_mk hg0 hg1 hi0 hi1)
      have HN := hid (pk_nomk g i)
      clear o0 o1 o2 hq i0 i1 i2
      cases m
      · go_wp2
        go_ret2
        exact ⟨by rw [← HN.out]; rfl, (Gr.refl _).alloc _⟩
      · go_wp2_with (first | (go_at_call 47; refine (mark_any _ hu _).mono ?_; rintro e w' ⟨rfl, rfl⟩))
        go_ret2
        exact ⟨by rw [← HM.out]; rfl, (Gr.refl _).alloc _⟩

theorem head_given (w : World) : Calls Try.prog 50 #[] w fun e w' => e = .returned (.int .u64 9223372036854775808) ∧ Below w.heap.size w w' := by
  go_enter Try.func50, Try.ntmps50
  go_wp2_with fail
  refine (pack_yes 0 0 false rfl _).mono ?_
  rintro e w1 ⟨rfl, g1⟩
  go_wp2_with fail
  go_ret
  exact ⟨ret_int rfl, g1⟩
end Go.Proofs.YthbkncklliiooaaH
