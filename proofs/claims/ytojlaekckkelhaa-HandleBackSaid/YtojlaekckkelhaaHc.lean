/-
  The walks of the statements of the layer handle.
-/
import Derived.Test.YtojlaekckkelhaaHb
namespace Go.Proofs.Ytojlaekckkelhaa
set_option linter.unusedVariables false
set_option linter.unusedSimpArgs false
open Go.RowKit

set_option maxHeartbeats 1000000 in
theorem alive_any (w : World) : Calls Try.prog 17 #[] w fun e w' => e = .returned (.bool true) ∧ Gr w w' := by
  obtain ⟨a1, a2, a3, a4, a5, a6, a7⟩ := pk_facts (i := 5) (g := 1) false (by decide)
  obtain ⟨b1, b2, b3, b4, b5, b6, b7⟩ := pk_facts (i := 5) (g := 1) true (by decide)
  have u0 : U64 0 := ⟨by omega, by omega⟩
  have k1 : (hPk 5 1 false == 9223372041149743109) = true := by decide
  have k2 : hV 0 = false := by decide
  go_enter Try.func17, Try.ntmps17
  go_wp2_with fail
  refine (pack_yes 5 1 false (by decide) _).mono ?_
  rintro e w1 ⟨rfl, g1⟩
  go_wp2_with fail
  refine (pack_yes 5 1 true (by decide) _).mono ?_
  rintro e w2 ⟨rfl, g2⟩
  go_wp2_with fail
  refine (pack_no (-1) 1 false (by decide) _).mono ?_
  rintro e w3 ⟨rfl, g3⟩
  go_wp2_with (first
    | (go_at_call 18; refine (valid_any _ (by assumption) _).mono ?_; rintro e w' ⟨rfl, rfl⟩)
    | (go_at_call 21; refine (marked_any _ (by assumption) _).mono ?_; rintro e w' ⟨rfl, rfl⟩)
    | (go_at_call 19; refine (index_any _ (by assumption) _).mono ?_; rintro e w4 ⟨rfl, g4⟩)
    | (go_at_call 20; refine (gen_any _ (by assumption) _).mono ?_; rintro e w4 ⟨rfl, g5⟩)
    | (go_at_call 26; refine (mark_any _ (by assumption) _).mono ?_; rintro e w' ⟨rfl, rfl⟩)
    | (go_at_call 28; refine (plain_any _ (by assumption) _).mono ?_; rintro e w' ⟨rfl, rfl⟩))
  go_ret
  exact ⟨rfl, (((g1.trans g2).trans g3).trans g4).trans g5⟩

set_option maxHeartbeats 1000000 in
theorem packs_any (i g : Int) (m : Bool) (w : World) : Calls Try.prog 3 #[.int .i64 i, .int .i64 g, .bool m] w fun e w' => e = .returned (.bool true) ∧ Gr w w' := by
  by_cases h : hMay i g = true
  · obtain ⟨a1, a2, a3, a4, a5, a6, a7⟩ := pk_facts m h
    go_enter Try.func3, Try.ntmps3
    go_wp2_with (first
      | (go_at_call 15; refine (pack_yes _ _ _ h _).mono ?_; rintro e w1 ⟨rfl, g1⟩)
      | (go_at_call 16; refine (rpack_yes _ _ _ h _).mono ?_; rintro e w' ⟨rfl, rfl⟩)
      | (go_at_call 17; refine (alive_any _).mono ?_; rintro e w2 ⟨rfl, g2⟩)
      | (go_at_call 18; refine (valid_any _ (by assumption) _).mono ?_; rintro e w' ⟨rfl, rfl⟩)
      | (go_at_call 21; refine (marked_any _ (by assumption) _).mono ?_; rintro e w' ⟨rfl, rfl⟩)
      | (go_at_call 19; refine (index_any _ (by assumption) _).mono ?_; rintro e w3 ⟨rfl, g3⟩)
      | (go_at_call 20; refine (gen_any _ (by assumption) _).mono ?_; rintro e w4 ⟨rfl, g4⟩))
    go_ret
    exact ⟨rfl, ((g1.trans g2).trans g3).trans g4⟩
  · have h' : hMay i g = false := by simpa using h
    clear h
    go_enter Try.func3, Try.ntmps3
    go_wp2_with (first
      | (go_at_call 15; refine (pack_no _ _ _ h' _).mono ?_; rintro e w1 ⟨rfl, g1⟩)
      | (go_at_call 16; refine (rpack_no _ _ _ h' _).mono ?_; rintro e w' ⟨rfl, rfl⟩)
      | (go_at_call 17; refine (alive_any _).mono ?_; rintro e w2 ⟨rfl, g2⟩))
    go_ret
    exact ⟨rfl, g1.trans g2⟩

set_option maxHeartbeats 1000000 in
theorem parts_any (a : Int) (h : U64 a) (w : World) : Calls Try.prog 4 #[.int .u64 a] w fun e w' => e = .returned (.bool true) ∧ Gr w w' := by
  go_enter Try.func4, Try.ntmps4
  go_wp2_with (first
    | (go_at_call 17; refine (alive_any _).mono ?_; rintro e w2 ⟨rfl, g2⟩)
    | (go_at_call 18; refine (valid_any _ (by assumption) _).mono ?_; rintro e w' ⟨rfl, rfl⟩)
    | (go_at_call 21; refine (marked_any _ (by assumption) _).mono ?_; rintro e w' ⟨rfl, rfl⟩)
    | (go_at_call 19; refine (index_any _ (by assumption) _).mono ?_; rintro e w3 ⟨rfl, g3⟩)
    | (go_at_call 20; refine (gen_any _ (by assumption) _).mono ?_; rintro e w4 ⟨rfl, g4⟩)
    | (go_at_call 26; refine (mark_any _ (by assumption) _).mono ?_; rintro e w' ⟨rfl, rfl⟩)
    | (go_at_call 28; refine (plain_any _ (by assumption) _).mono ?_; rintro e w' ⟨rfl, rfl⟩)
    | (go_at_call 22; refine (rvalid_any _ _).mono ?_; rintro e w' ⟨rfl, rfl⟩)
    | (go_at_call 23; refine (rmarked_any _ (by assumption) _).mono ?_; rintro e w' ⟨rfl, rfl⟩)
    | (go_at_call 24; refine (rindex_any _ (by assumption) _).mono ?_; rintro e w' ⟨rfl, rfl⟩)
    | (go_at_call 25; refine (rgen_any _ (by assumption) _).mono ?_; rintro e w' ⟨rfl, rfl⟩)
    | (go_at_call 27; refine (rmark_any _ (by assumption) _).mono ?_; rintro e w' ⟨rfl, rfl⟩)
    | (go_at_call 29; refine (rplain_any _ (by assumption) _).mono ?_; rintro e w' ⟨rfl, rfl⟩))
  go_ret
  exact ⟨rfl, (g2.trans g3).trans g4⟩

set_option maxHeartbeats 1000000 in
theorem back_any (a : Int) (h : U64 a) (w : World) : Calls Try.prog 5 #[.int .u64 a] w fun e w' => e = .returned (.bool true) ∧ Gr w w' := by
  have h1 := parts_may h
  have h2 := parts_back h
  go_enter Try.func5, Try.ntmps5
  go_wp2_with (first
    | (go_at_call 17; refine (alive_any _).mono ?_; rintro e w2 ⟨rfl, g2⟩)
    | (go_at_call 18; refine (valid_any _ (by assumption) _).mono ?_; rintro e w' ⟨rfl, rfl⟩)
    | (go_at_call 21; refine (marked_any _ (by assumption) _).mono ?_; rintro e w' ⟨rfl, rfl⟩)
    | (go_at_call 19; refine (index_any _ (by assumption) _).mono ?_; rintro e w3 ⟨rfl, g3⟩)
    | (go_at_call 20; refine (gen_any _ (by assumption) _).mono ?_; rintro e w4 ⟨rfl, g4⟩)
    | (go_at_call 15; refine (pack_yes _ _ _ (by assumption) _).mono ?_; rintro e w1 ⟨rfl, g1⟩))
  go_ret
  exact ⟨rfl, ((g3.trans g4).trans g1).trans g2⟩

set_option maxHeartbeats 1000000 in
theorem marks_any (a : Int) (h : U64 a) (w : World) : Calls Try.prog 6 #[.int .u64 a] w fun e w' => e = .returned (.bool true) ∧ Gr w w' := by
  obtain ⟨a1, a2, a3, a4, a5, a6, a7⟩ := mk_facts h
  obtain ⟨b1, b2, b3, b4, b5, b6, b7⟩ := pl_facts h
  have hc : (a == hMk a) = true ∨ ((a == hMk a) = false ∧ (a == hPl a) = true) := by
    rcases mk_or_pl a with ⟨_, e⟩ | ⟨_, e, f⟩
    · exact .inl (by rw [e]; simp)
    · exact .inr ⟨f, by rw [e]; simp⟩
  rcases hc with hc | ⟨hc, hd⟩
  all_goals
    go_enter Try.func6, Try.ntmps6
    go_wp2_with fail
    refine (mark_any _ h _).mono ?_
    rintro e w1 ⟨rfl, rfl⟩
    go_wp2_with fail
    refine (plain_any _ h _).mono ?_
    rintro e w2 ⟨rfl, rfl⟩
    go_wp2_with fail
    refine (alive_any _).mono ?_
    rintro e w3 ⟨rfl, g0⟩
    go_wp2_with fail
    refine (marked_any _ a1 _).mono ?_
    rintro e w4 ⟨rfl, rfl⟩
    go_wp2_with fail
    refine (marked_any _ b1 _).mono ?_
    rintro e w4 ⟨rfl, rfl⟩
    go_wp2_with fail
    refine (mark_any _ a1 _).mono ?_
    rintro e w4 ⟨rfl, rfl⟩
    go_wp2_with fail
    refine (plain_any _ b1 _).mono ?_
    rintro e w4 ⟨rfl, rfl⟩
    go_wp2_with fail
    refine (plain_any _ a1 _).mono ?_
    rintro e w4 ⟨rfl, rfl⟩
    go_wp2_with fail
    refine (mark_any _ b1 _).mono ?_
    rintro e w4 ⟨rfl, rfl⟩
    go_wp2_with fail
    refine (index_any _ a1 _).mono ?_
    rintro e w4 ⟨rfl, g1⟩
    go_wp2_with fail
    refine (index_any _ b1 _).mono ?_
    rintro e w5 ⟨rfl, g2⟩
    go_wp2_with fail
    refine (gen_any _ a1 _).mono ?_
    rintro e w6 ⟨rfl, g3⟩
    go_wp2_with fail
    refine (gen_any _ b1 _).mono ?_
    rintro e w7 ⟨rfl, g4⟩
    go_wp2_with fail
    refine (valid_any _ a1 _).mono ?_
    rintro e w8 ⟨rfl, rfl⟩
    go_wp2_with fail
    refine (valid_any _ b1 _).mono ?_
    rintro e w8 ⟨rfl, rfl⟩
    go_wp2_with fail
    go_ret
    exact ⟨rfl, (((g0.trans g1).trans g2).trans g3).trans g4⟩
end Go.Proofs.Ytojlaekckkelhaa
