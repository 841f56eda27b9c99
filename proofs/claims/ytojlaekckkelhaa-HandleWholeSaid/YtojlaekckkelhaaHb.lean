/-
  The walks of the reference of the layer handle, and of the statements' own 'alive'.
-/
import Derived.Test.YtojlaekckkelhaaHa
namespace Go.Proofs.Ytojlaekckkelhaa
set_option linter.unusedVariables false
set_option linter.unusedSimpArgs false
open Go.RowKit

theorem ret_w {a b : Int} {c : Bool} (h : a = b) : Ending.returned (.tuple #[.int .u64 a, .bool c]) = .returned (.tuple #[.int .u64 b, .bool c]) := by rw [h]

set_option maxHeartbeats 400000 in
theorem rpack_no (i g : Int) (m : Bool) (h : hMay i g = false) (w : World) :
    Calls Try.prog 16 #[.int .i64 i, .int .i64 g, .bool m] w fun e w' => e = .returned (.tuple #[.int .u64 0, .bool false]) ∧ w = w' := by
  have h1 : ¬ ((0 ≤ i ∧ i ≤ 4294967295) ∧ (0 ≤ g ∧ g ≤ 1073741823)) := of_decide_eq_false h
  clear h
  by_cases c1 : i < 0
  · go_enter Try.func16, Try.ntmps16
    go_wp2
    go_ret2
    exact ⟨rfl, rfl⟩
  · by_cases c2 : 4294967295 < i
    · go_enter Try.func16, Try.ntmps16
      go_wp2
      go_ret2
      exact ⟨rfl, rfl⟩
    · by_cases c3 : g < 0
      · go_enter Try.func16, Try.ntmps16
        go_wp2
        go_ret2
        exact ⟨rfl, rfl⟩
      · have c4 : 1073741823 < g := by omega
        clear h1
        go_enter Try.func16, Try.ntmps16
        go_wp2
        go_ret2
        exact ⟨rfl, rfl⟩

set_option maxHeartbeats 400000 in
theorem rpack_yes (i g : Int) (m : Bool) (h : hMay i g = true) (w : World) :
    Calls Try.prog 16 #[.int .i64 i, .int .i64 g, .bool m] w fun e w' => e = .returned (.tuple #[.int .u64 (hPk i g m), .bool true]) ∧ w = w' := by
  obtain ⟨⟨c1, c2⟩, c3, c4⟩ := may_of h
  clear h
  have d1 : ¬ i < 0 := by omega
  have d2 : ¬ 4294967295 < i := by omega
  have d3 : ¬ g < 0 := by omega
  have d4 : ¬ 1073741823 < g := by omega
  have H := hid (pk_ref (g := g) (i := i) c3 c4 c1 c2)
  cases m
  · go_enter Try.func16, Try.ntmps16
    go_wp2
    go_ret2
    exact ⟨ret_w (by rw [← H.out]), rfl⟩
  · go_enter Try.func16, Try.ntmps16
    go_wp2
    go_ret2
    exact ⟨ret_w (by rw [← pk_true, ← H.out]), rfl⟩

set_option maxHeartbeats 400000 in
theorem rvalid_any (a : Int) (w : World) :
    Calls Try.prog 22 #[.int .u64 a] w fun e w' => e = .returned (.bool (hV a)) ∧ w = w' := by
  go_enter Try.func22, Try.ntmps22
  go_wp2
  go_ret
  exact ⟨rfl, rfl⟩

set_option maxHeartbeats 400000 in
theorem rmarked_any (a : Int) (h : U64 a) (w : World) :
    Calls Try.prog 23 #[.int .u64 a] w fun e w' => e = .returned (.bool (hM a)) ∧ w = w' := by
  have h0 : 0 ≤ a := h.1
  go_enter Try.func23, Try.ntmps23
  go_wp2
  go_ret
  exact ⟨ret_bool (marked_ref h), rfl⟩

set_option maxHeartbeats 400000 in
theorem rindex_any (a : Int) (h : U64 a) (w : World) :
    Calls Try.prog 24 #[.int .u64 a] w fun e w' => e = .returned (.int .i64 (hI a)) ∧ w = w' := by
  have h0 : 0 ≤ a := h.1
  go_enter Try.func24, Try.ntmps24
  go_wp2
  go_ret
  exact ⟨ret_int rfl, rfl⟩

set_option maxHeartbeats 400000 in
theorem rgen_any (a : Int) (h : U64 a) (w : World) :
    Calls Try.prog 25 #[.int .u64 a] w fun e w' => e = .returned (.int .i64 (hG a)) ∧ w = w' := by
  have h0 : 0 ≤ a := h.1
  go_enter Try.func25, Try.ntmps25
  go_wp2
  go_ret
  exact ⟨ret_int (gen_ref h), rfl⟩

set_option maxHeartbeats 400000 in
theorem rmark_any (a : Int) (h : U64 a) (w : World) :
    Calls Try.prog 27 #[.int .u64 a] w fun e w' => e = .returned (.int .u64 (hMk a)) ∧ w = w' := by
  have h0 : 0 ≤ a := h.1
  by_cases hm : hM a = true
  · go_enter Try.func27, Try.ntmps27
    go_wp2_with (first | (go_at_call 23; refine (rmarked_any _ h _).mono ?_; rintro e w' ⟨rfl, rfl⟩))
    go_ret
    exact ⟨ret_int (by rw [hMk, if_pos hm]), rfl⟩
  · have hm' : hM a = false := by simpa using hm
    go_enter Try.func27, Try.ntmps27
    go_wp2_with (first | (go_at_call 23; refine (rmarked_any _ h _).mono ?_; rintro e w' ⟨rfl, rfl⟩))
    go_ret
    exact ⟨ret_int (mk_wrap h hm'), rfl⟩

set_option maxHeartbeats 400000 in
theorem rplain_any (a : Int) (h : U64 a) (w : World) :
    Calls Try.prog 29 #[.int .u64 a] w fun e w' => e = .returned (.int .u64 (hPl a)) ∧ w = w' := by
  have h0 : 0 ≤ a := h.1
  by_cases hm : hM a = true
  · go_enter Try.func29, Try.ntmps29
    go_wp2_with (first | (go_at_call 23; refine (rmarked_any _ h _).mono ?_; rintro e w' ⟨rfl, rfl⟩))
    go_ret
    exact ⟨ret_int (pl_wrap h hm), rfl⟩
  · have hm' : hM a = false := by simpa using hm
    go_enter Try.func29, Try.ntmps29
    go_wp2_with (first | (go_at_call 23; refine (rmarked_any _ h _).mono ?_; rintro e w' ⟨rfl, rfl⟩))
    go_ret
    exact ⟨ret_int (by rw [hPl, if_neg hm]), rfl⟩
end Go.Proofs.Ytojlaekckkelhaa
