/-
  The walks of two more statements of the layer handle.
-/
import Derived.Test.YtojlaekckkelhaaHc
namespace Go.Proofs.Ytojlaekckkelhaa
set_option linter.unusedVariables false
set_option linter.unusedSimpArgs false
open Go.RowKit

theorem Gr.cells {W w1 : World} (hb : Gr W w1) : (∀ b o, b < W.heap.size → w1.cell? ⟨b, o, none⟩ = W.cell? ⟨b, o, none⟩) ∧ (∀ b o, b < W.heap.size → w1.frozen? ⟨b, o, none⟩ = W.frozen? ⟨b, o, none⟩) :=
  ⟨fun b o h => Below.cell (p := ⟨b, o, none⟩) hb h, fun b o h => Below.frozen (p := ⟨b, o, none⟩) hb h⟩

/-- A cell that there was is as it was. -/
theorem Gr.cell {W w1 : World} (g : Gr W w1) {a : Addr} {v : Value} (h : W.cell? a = some v) : w1.cell? a = some v := by
  by_cases hb : a.block < W.heap.size
  · rw [Below.cell g hb]; exact h
  · simp [World.cell?, Array.getElem?_eq_none (Nat.le_of_not_lt hb)] at h

set_option maxHeartbeats 1000000 in
theorem whole_any (a b : Int) (ha : U64 a) (hb : U64 b) (w : World) : Calls Try.prog 8 #[.int .u64 a, .int .u64 b] w fun e w' => e = .returned (.bool true) ∧ Gr w w' := by
  by_cases hab : a = b
  · subst hab
    go_enter Try.func8, Try.ntmps8
    go_wp2_with (first
      | (go_at_call 17; refine (alive_any _).mono ?_; rintro e w2 ⟨rfl, g0⟩)
      | (go_at_call 18; refine (valid_any _ ha _).mono ?_; rintro e w' ⟨rfl, rfl⟩)
      | (go_at_call 21; refine (marked_any _ ha _).mono ?_; rintro e w' ⟨rfl, rfl⟩)
      | (go_at_call 19; refine (index_any _ ha _).mono ?_; rintro e w3 ⟨rfl, g1⟩)
      | (go_at_call 20; refine (gen_any _ ha _).mono ?_; rintro e w4 ⟨rfl, g2⟩))
    go_ret
    refine ⟨rfl, ?_⟩
    repeat (first | exact Gr.refl _ | refine Gr.trans ?_ (by assumption))
  · have hx : (a == b) = false := by simpa using hab
    by_cases h1 : hI a = hI b
    · by_cases h2 : hG a = hG b
      · by_cases h3 : hM a = hM b
        · have h4 : (hV a == hV b) = false := by
            rw [beq_eq_false_iff_ne]; exact fun h4 => hab (parts_same ha hb h1 h2 h3 h4)
          have e1 : (hI a == hI b) = true := by simpa using h1
          have e2 : (hG a == hG b) = true := by simpa using h2
          have e3 : (hM a == hM b) = true := by simpa using h3
          clear h1 h2 h3 hab
          go_enter Try.func8, Try.ntmps8
          go_wp2_with (first
            | (go_at_call 17; refine (alive_any _).mono ?_; rintro e w2 ⟨rfl, g0⟩)
            | (go_at_call 18; refine (valid_any _ (by assumption) _).mono ?_; rintro e w' ⟨rfl, rfl⟩)
            | (go_at_call 21; refine (marked_any _ (by assumption) _).mono ?_; rintro e w' ⟨rfl, rfl⟩)
            | (go_at_call 19; refine (index_any _ (by assumption) _).mono ?_; rintro e w3 ⟨rfl, g1⟩)
            | (go_at_call 20; refine (gen_any _ (by assumption) _).mono ?_; rintro e w4 ⟨rfl, g2⟩))
          go_ret
          refine ⟨rfl, ?_⟩
          repeat (first | exact Gr.refl _ | refine Gr.trans ?_ (by assumption))
        · have e1 : (hI a == hI b) = true := by simpa using h1
          have e2 : (hG a == hG b) = true := by simpa using h2
          have e3 : (hM a == hM b) = false := by simpa using h3
          clear h1 h2 h3 hab
          go_enter Try.func8, Try.ntmps8
          go_wp2_with (first
            | (go_at_call 17; refine (alive_any _).mono ?_; rintro e w2 ⟨rfl, g0⟩)
            | (go_at_call 21; refine (marked_any _ (by assumption) _).mono ?_; rintro e w' ⟨rfl, rfl⟩)
            | (go_at_call 19; refine (index_any _ (by assumption) _).mono ?_; rintro e w3 ⟨rfl, g1⟩)
            | (go_at_call 20; refine (gen_any _ (by assumption) _).mono ?_; rintro e w4 ⟨rfl, g2⟩))
          go_ret
          refine ⟨rfl, ?_⟩
          repeat (first | exact Gr.refl _ | refine Gr.trans ?_ (by assumption))
      · have e1 : (hI a == hI b) = true := by simpa using h1
        have e2 : (hG a == hG b) = false := by simpa using h2
        clear h1 h2 hab
        go_enter Try.func8, Try.ntmps8
        go_wp2_with (first
          | (go_at_call 17; refine (alive_any _).mono ?_; rintro e w2 ⟨rfl, g0⟩)
          | (go_at_call 19; refine (index_any _ (by assumption) _).mono ?_; rintro e w3 ⟨rfl, g1⟩)
          | (go_at_call 20; refine (gen_any _ (by assumption) _).mono ?_; rintro e w4 ⟨rfl, g2⟩))
        go_ret
        refine ⟨rfl, ?_⟩
        repeat (first | exact Gr.refl _ | refine Gr.trans ?_ (by assumption))
    · have e1 : (hI a == hI b) = false := by simpa using h1
      clear h1 hab
      go_enter Try.func8, Try.ntmps8
      go_wp2_with (first
        | (go_at_call 17; refine (alive_any _).mono ?_; rintro e w2 ⟨rfl, g0⟩)
        | (go_at_call 19; refine (index_any _ (by assumption) _).mono ?_; rintro e w3 ⟨rfl, g1⟩))
      go_ret
      refine ⟨rfl, ?_⟩
      repeat (first | exact Gr.refl _ | refine Gr.trans ?_ (by assumption))

theorem pk_inj {i g i' g' : Int} {m m' : Bool} (h : hMay i g = true) (h' : hMay i' g' = true) (e : hPk i g m = hPk i' g' m') : i = i' ∧ g = g' ∧ m = m' := by
  obtain ⟨_, _, a3, a4, a5, _⟩ := pk_facts m h
  obtain ⟨_, _, b3, b4, b5, _⟩ := pk_facts m' h'
  exact ⟨by rw [← a4, e, b4], by rw [← a5, e, b5], by rw [← a3, e, b3]⟩

set_option maxHeartbeats 1000000 in
theorem apart_any (a0 a1 b0 b1 : Int) (m0 m1 : Bool) (w : World) : Calls Try.prog 7 #[.agg #[.int .i64 a0, .int .i64 a1], .agg #[.int .i64 b0, .int .i64 b1], .agg #[.bool m0, .bool m1]] w fun e w' => e = .returned (.bool true) ∧ Gr w w' := by
  by_cases ha : hMay a0 a1 = true
  · by_cases hb : hMay b0 b1 = true
    · have hcase : (a0 = b0 ∧ a1 = b1 ∧ m0 = m1) ∨ ((hPk a0 a1 m0 == hPk b0 b1 m1) = false ∧ ((a0 == b0 && a1 == b1) = false ∨ ((a0 == b0 && a1 == b1) = true ∧ (m0 == m1) = false))) := by
        by_cases h1 : a0 = b0 ∧ a1 = b1 ∧ m0 = m1
        · exact .inl h1
        · refine .inr ⟨?_, ?_⟩
          · rw [beq_eq_false_iff_ne]; exact fun e => h1 (pk_inj ha hb e)
          · by_cases h2 : (a0 == b0 && a1 == b1) = true
            · refine .inr ⟨h2, ?_⟩
              rw [beq_eq_false_iff_ne]
              simp only [Bool.and_eq_true, beq_iff_eq] at h2
              exact fun e => h1 ⟨h2.1, h2.2, e⟩
            · exact .inl (by simpa using h2)
      rcases hcase with ⟨rfl, rfl, rfl⟩ | ⟨hp, hq | ⟨hq, hm⟩⟩
      · have hx := fun w => eql_pair a0 a1 a0 a1 w
        go_enter Try.func7, Try.ntmps7
        go_wp2_with fail
        refine (pack_yes _ _ _ ha _).mono ?_
        rintro e w1 ⟨rfl, g1⟩
        have c0 := g1.cell (a := ⟨w.heap.size, 0, none⟩) (v := .int .i64 a0) (by simp [go_sem])
        have c1 := g1.cell (a := ⟨w.heap.size, 1, none⟩) (v := .int .i64 a1) (by simp [go_sem])
        have d0 := g1.cell (a := ⟨w.heap.size + 1, 0, none⟩) (v := .int .i64 a0) (by simp [go_sem])
        have d1 := g1.cell (a := ⟨w.heap.size + 1, 1, none⟩) (v := .int .i64 a1) (by simp [go_sem])
        have e0 := g1.cell (a := ⟨w.heap.size + 2, 0, none⟩) (v := .bool m0) (by simp [go_sem])
        have e1 := g1.cell (a := ⟨w.heap.size + 2, 1, none⟩) (v := .bool m0) (by simp [go_sem])
        go_wp2_with fail
        refine (pack_yes _ _ _ hb _).mono ?_
        rintro e w2 ⟨rfl, g2⟩
        have c0 := g2.cell c0
        have c1 := g2.cell c1
        have d0 := g2.cell d0
        have d1 := g2.cell d1
        have e0 := g2.cell e0
        have e1 := g2.cell e1
        go_wp2_with fail
        refine (alive_any _).mono ?_
        rintro e w3 ⟨rfl, g3⟩
        have c0 := g3.cell c0
        have c1 := g3.cell c1
        have d0 := g3.cell d0
        have d1 := g3.cell d1
        have e0 := g3.cell e0
        have e1 := g3.cell e1
        go_wp2_with fail
        go_ret
        exact ⟨rfl, (((((Gr.refl w).alloc _).alloc _).alloc _).trans g1).trans (g2.trans g3)⟩
      · have hx := fun w => (eql_pair a0 a1 b0 b1 w).trans (by rw [hq])
        clear hq
        go_enter Try.func7, Try.ntmps7
        go_wp2_with fail
        refine (pack_yes _ _ _ ha _).mono ?_
        rintro e w1 ⟨rfl, g1⟩
        have c0 := g1.cell (a := ⟨w.heap.size, 0, none⟩) (v := .int .i64 a0) (by simp [go_sem])
        have c1 := g1.cell (a := ⟨w.heap.size, 1, none⟩) (v := .int .i64 a1) (by simp [go_sem])
        have d0 := g1.cell (a := ⟨w.heap.size + 1, 0, none⟩) (v := .int .i64 b0) (by simp [go_sem])
        have d1 := g1.cell (a := ⟨w.heap.size + 1, 1, none⟩) (v := .int .i64 b1) (by simp [go_sem])
        have e0 := g1.cell (a := ⟨w.heap.size + 2, 0, none⟩) (v := .bool m0) (by simp [go_sem])
        have e1 := g1.cell (a := ⟨w.heap.size + 2, 1, none⟩) (v := .bool m1) (by simp [go_sem])
        go_wp2_with fail
        refine (pack_yes _ _ _ hb _).mono ?_
        rintro e w2 ⟨rfl, g2⟩
        have c0 := g2.cell c0
        have c1 := g2.cell c1
        have d0 := g2.cell d0
        have d1 := g2.cell d1
        have e0 := g2.cell e0
        have e1 := g2.cell e1
        go_wp2_with fail
        refine (alive_any _).mono ?_
        rintro e w3 ⟨rfl, g3⟩
        have c0 := g3.cell c0
        have c1 := g3.cell c1
        have d0 := g3.cell d0
        have d1 := g3.cell d1
        have e0 := g3.cell e0
        have e1 := g3.cell e1
        go_wp2_with fail
        go_ret
        exact ⟨rfl, (((((Gr.refl w).alloc _).alloc _).alloc _).trans g1).trans (g2.trans g3)⟩
      · have hx := fun w => (eql_pair a0 a1 b0 b1 w).trans (by rw [hq])
        clear hq
        go_enter Try.func7, Try.ntmps7
        go_wp2_with fail
        refine (pack_yes _ _ _ ha _).mono ?_
        rintro e w1 ⟨rfl, g1⟩
        have c0 := g1.cell (a := ⟨w.heap.size, 0, none⟩) (v := .int .i64 a0) (by simp [go_sem])
        have c1 := g1.cell (a := ⟨w.heap.size, 1, none⟩) (v := .int .i64 a1) (by simp [go_sem])
        have d0 := g1.cell (a := ⟨w.heap.size + 1, 0, none⟩) (v := .int .i64 b0) (by simp [go_sem])
        have d1 := g1.cell (a := ⟨w.heap.size + 1, 1, none⟩) (v := .int .i64 b1) (by simp [go_sem])
        have e0 := g1.cell (a := ⟨w.heap.size + 2, 0, none⟩) (v := .bool m0) (by simp [go_sem])
        have e1 := g1.cell (a := ⟨w.heap.size + 2, 1, none⟩) (v := .bool m1) (by simp [go_sem])
        go_wp2_with fail
        refine (pack_yes _ _ _ hb _).mono ?_
        rintro e w2 ⟨rfl, g2⟩
        have c0 := g2.cell c0
        have c1 := g2.cell c1
        have d0 := g2.cell d0
        have d1 := g2.cell d1
        have e0 := g2.cell e0
        have e1 := g2.cell e1
        go_wp2_with fail
        refine (alive_any _).mono ?_
        rintro e w3 ⟨rfl, g3⟩
        have c0 := g3.cell c0
        have c1 := g3.cell c1
        have d0 := g3.cell d0
        have d1 := g3.cell d1
        have e0 := g3.cell e0
        have e1 := g3.cell e1
        go_wp2_with fail
        go_ret
        exact ⟨rfl, (((((Gr.refl w).alloc _).alloc _).alloc _).trans g1).trans (g2.trans g3)⟩
    · have hb' : hMay b0 b1 = false := by simpa using hb
      clear hb
      go_enter Try.func7, Try.ntmps7
      go_wp2_with fail
      refine (pack_yes _ _ _ ha _).mono ?_
      rintro e w1 ⟨rfl, g1⟩
      have c0 := g1.cell (a := ⟨w.heap.size, 0, none⟩) (v := .int .i64 a0) (by simp [go_sem])
      have c1 := g1.cell (a := ⟨w.heap.size, 1, none⟩) (v := .int .i64 a1) (by simp [go_sem])
      have d0 := g1.cell (a := ⟨w.heap.size + 1, 0, none⟩) (v := .int .i64 b0) (by simp [go_sem])
      have d1 := g1.cell (a := ⟨w.heap.size + 1, 1, none⟩) (v := .int .i64 b1) (by simp [go_sem])
      have e0 := g1.cell (a := ⟨w.heap.size + 2, 0, none⟩) (v := .bool m0) (by simp [go_sem])
      have e1 := g1.cell (a := ⟨w.heap.size + 2, 1, none⟩) (v := .bool m1) (by simp [go_sem])
      go_wp2_with fail
      refine (pack_no _ _ _ hb' _).mono ?_
      rintro e w2 ⟨rfl, g2⟩
      have c0 := g2.cell c0
      have c1 := g2.cell c1
      have d0 := g2.cell d0
      have d1 := g2.cell d1
      have e0 := g2.cell e0
      have e1 := g2.cell e1
      go_wp2_with fail
      refine (alive_any _).mono ?_
      rintro e w3 ⟨rfl, g3⟩
      have c0 := g3.cell c0
      have c1 := g3.cell c1
      have d0 := g3.cell d0
      have d1 := g3.cell d1
      have e0 := g3.cell e0
      have e1 := g3.cell e1
      go_wp2_with fail
      go_ret
      exact ⟨rfl, (((((Gr.refl w).alloc _).alloc _).alloc _).trans g1).trans (g2.trans g3)⟩
  · have ha' : hMay a0 a1 = false := by simpa using ha
    clear ha
    by_cases hb : hMay b0 b1 = true
    · go_enter Try.func7, Try.ntmps7
      go_wp2_with fail
      refine (pack_no _ _ _ ha' _).mono ?_
      rintro e w1 ⟨rfl, g1⟩
      have c0 := g1.cell (a := ⟨w.heap.size, 0, none⟩) (v := .int .i64 a0) (by simp [go_sem])
      have c1 := g1.cell (a := ⟨w.heap.size, 1, none⟩) (v := .int .i64 a1) (by simp [go_sem])
      have d0 := g1.cell (a := ⟨w.heap.size + 1, 0, none⟩) (v := .int .i64 b0) (by simp [go_sem])
      have d1 := g1.cell (a := ⟨w.heap.size + 1, 1, none⟩) (v := .int .i64 b1) (by simp [go_sem])
      have e0 := g1.cell (a := ⟨w.heap.size + 2, 0, none⟩) (v := .bool m0) (by simp [go_sem])
      have e1 := g1.cell (a := ⟨w.heap.size + 2, 1, none⟩) (v := .bool m1) (by simp [go_sem])
      go_wp2_with fail
      refine (pack_yes _ _ _ hb _).mono ?_
      rintro e w2 ⟨rfl, g2⟩
      have c0 := g2.cell c0
      have c1 := g2.cell c1
      have d0 := g2.cell d0
      have d1 := g2.cell d1
      have e0 := g2.cell e0
      have e1 := g2.cell e1
      go_wp2_with fail
      refine (alive_any _).mono ?_
      rintro e w3 ⟨rfl, g3⟩
      have c0 := g3.cell c0
      have c1 := g3.cell c1
      have d0 := g3.cell d0
      have d1 := g3.cell d1
      have e0 := g3.cell e0
      have e1 := g3.cell e1
      go_wp2_with fail
      go_ret
      exact ⟨rfl, (((((Gr.refl w).alloc _).alloc _).alloc _).trans g1).trans (g2.trans g3)⟩
    · have hb' : hMay b0 b1 = false := by simpa using hb
      clear hb
      go_enter Try.func7, Try.ntmps7
      go_wp2_with fail
      refine (pack_no _ _ _ ha' _).mono ?_
      rintro e w1 ⟨rfl, g1⟩
      have c0 := g1.cell (a := ⟨w.heap.size, 0, none⟩) (v := .int .i64 a0) (by simp [go_sem])
      have c1 := g1.cell (a := ⟨w.heap.size, 1, none⟩) (v := .int .i64 a1) (by simp [go_sem])
      have d0 := g1.cell (a := ⟨w.heap.size + 1, 0, none⟩) (v := .int .i64 b0) (by simp [go_sem])
      have d1 := g1.cell (a := ⟨w.heap.size + 1, 1, none⟩) (v := .int .i64 b1) (by simp [go_sem])
      have e0 := g1.cell (a := ⟨w.heap.size + 2, 0, none⟩) (v := .bool m0) (by simp [go_sem])
      have e1 := g1.cell (a := ⟨w.heap.size + 2, 1, none⟩) (v := .bool m1) (by simp [go_sem])
      go_wp2_with fail
      refine (pack_no _ _ _ hb' _).mono ?_
      rintro e w2 ⟨rfl, g2⟩
      have c0 := g2.cell c0
      have c1 := g2.cell c1
      have d0 := g2.cell d0
      have d1 := g2.cell d1
      have e0 := g2.cell e0
      have e1 := g2.cell e1
      go_wp2_with fail
      refine (alive_any _).mono ?_
      rintro e w3 ⟨rfl, g3⟩
      have c0 := g3.cell c0
      have c1 := g3.cell c1
      have d0 := g3.cell d0
      have d1 := g3.cell d1
      have e0 := g3.cell e0
      have e1 := g3.cell e1
      go_wp2_with fail
      go_ret
      exact ⟨rfl, (((((Gr.refl w).alloc _).alloc _).alloc _).trans g1).trans (g2.trans g3)⟩
end Go.Proofs.Ytojlaekckkelhaa
