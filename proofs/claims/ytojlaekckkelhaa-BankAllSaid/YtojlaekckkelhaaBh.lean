/-
  The statement of the layer bank that an access changes no other cell.
-/
import Derived.Test.YtojlaekckkelhaaBg
namespace Go.Proofs.Ytojlaekckkelhaa
set_option linter.unusedVariables false
set_option linter.unusedSimpArgs false
open Go.RowKit

set_option maxHeartbeats 1000000 in
theorem others_any (a0 : Value) (l : List Int) (w : World) (hv : Words w a0 l) (hl : l.length ≤ 17592186044416) (k c via old v : Int) :
    Calls Try.prog 11 #[a0, opv k c via old v] w fun e w' => e = .returned (.bool true) ∧ Gr w w' := by
  obtain ⟨a, cap, rfl⟩ := hv.slice
  have HV := hid hv
  unfold opv
  clear hv
  by_cases h : (500 : Int) < l.length
  · go_enter Try.func11, Try.ntmps11
    go_wp2_with fail
    refine (of_any _ l _ (HV.out.gr ((Gr.refl w).alloc _)) hl).mono ?_
    rintro e w1 ⟨p, q, rfl, b0, g1, hp, hq⟩
    go_wp2_with (go_at_call 30; refine (alive_bank _).mono ?_; rintro e w2 ⟨rfl, g2⟩)
    go_ret
    exact ⟨rfl, (((Gr.refl w).alloc _).trans g1).trans g2⟩
  · have hl5 : l.length ≤ 500 := by omega
    clear hl
    go_enter Try.func11, Try.ntmps11
    go_wp2_with fail
    refine (of_any _ l _ (HV.out.gr ((Gr.refl w).alloc _)) (by omega)).mono ?_
    rintro e w1 ⟨p, q, rfl, b0, g1, hp, hq⟩
    have y0 := g1.cell (a := ⟨w.heap.size, 0, none⟩) (v := .int .i64 k) (by simp [go_sem])
    have y1 := g1.cell (a := ⟨w.heap.size, 1, none⟩) (v := .int .i64 c) (by simp [go_sem])
    have y2 := g1.cell (a := ⟨w.heap.size, 2, none⟩) (v := .int .u64 via) (by simp [go_sem])
    have y3 := g1.cell (a := ⟨w.heap.size, 3, none⟩) (v := .int .u64 old) (by simp [go_sem])
    have y4 := g1.cell (a := ⟨w.heap.size, 4, none⟩) (v := .int .u64 v) (by simp [go_sem])
    go_wp2_with fail
    refine (does_any p q _ k c via old v _ b0).mono ?_
    obtain ⟨hlen, hoth⟩ := does_others ⟨l, 0, Acc.zero⟩ k c via old v
    generalize (⟨l, 0, Acc.zero⟩ : Bk).does k c via old v = B1 at *
    generalize (⟨l, 0, Acc.zero⟩ : Bk).doesIs k c via old v = is at *
    generalize (⟨l, 0, Acc.zero⟩ : Bk).doesV k c via old v = r at *
    rintro e w2 ⟨rfl, b1, c1⟩
    have hf := Two.from hp hq
    simp only [World.size_alloc] at hf
    have nd : ¬ Two p q w.heap.size := fun h => by have := hf _ h; omega
    have u0 := c1.cell y0 nd
    have u1 := c1.cell y1 nd
    have hg2 : Gr w w2 := (((Gr.refl w).alloc _).trans g1).step c1 (fun i hi => by have := hf i hi; omega)
    simp only at hlen hoth
    have HLEN := hid hlen
    have HOTH := hid hoth
    have HG2 := hid hg2
    clear y0 y1 y2 y3 y4 hlen hoth c1 g1 b0 hg2 hf nd hp hq
    go_wp2_with fail
    refine (cells_any p q B1 _ b1 (by rw [HLEN.out]; omega)).mono ?_
    rintro e w3 ⟨rfl, hm, g3⟩
    have t0 := g3.cell u0
    have t1 := g3.cell u1
    rw [HLEN.out]
    have HM := hid hm
    have HG3 := hid g3
    clear u0 u1 hm g3 b1
    go_wp2
    go_loop [33] (fun i => ∃ j : Nat, j ≤ l.length ∧ i = .int .i64 j) (fun i => l.length - (intOf i).toNat)
    case atStart => exact ⟨0, Nat.zero_le _, rfl⟩
    case round =>
      obtain ⟨j, hj, rfl⟩ := hrel
      by_cases hlt : j < l.length
      · have hlt' : (j : Int) < l.length := by omega
        have hj0 : 0 ≤ (j : Int) := by omega
        have hne : l ≠ [] := by intro e; subst e; simp at hlt
        have hW3 := HV.out.gr (HG2.out.trans HG3.out)
        obtain ⟨ad, cap2, e2⟩ := hW3.addr hne
        cases e2
        obtain ⟨x, hx⟩ : ∃ x, B1.cells.getD j 0 = x := ⟨_, rfl⟩
        obtain ⟨y, hy⟩ : ∃ y, l.getD j 0 = y := ⟨_, rfl⟩
        have cx : w3.cell? ⟨w2.heap.size, j, none⟩ = some (.int .u64 x) := by
          have hb : j < B1.cells.length := by rw [HLEN.out]; exact hlt
          rw [← hx]; exact HM.out.cell (by simp [wordsRow_get, List.getD, hb])
        have cy := hW3.elem hlt
        rw [hy] at cy
        have hcase : x = y ∨ ((x != y) = true ∧ ((j : Int) != c) = false ∧ (k == 1) = false ∧ ((k == 3) = false ∨ ((k == 3) = true ∧ is = true))) := by
          rcases HOTH.out j with h1 | ⟨h1, h2, h3⟩
          · exact .inl (by rw [← hx, ← hy, h1])
          · by_cases h4 : x = y
            · exact .inl h4
            · refine .inr ⟨by simpa using h4, by simpa using h1, by simpa using h2, ?_⟩
              by_cases h5 : k = 3
              · exact .inr ⟨by simpa using h5, h3 h5⟩
              · exact .inl (by simpa using h5)
        clear hW3 hx hy hne
        rcases hcase with rfl | ⟨f1, f2, f3, f4 | ⟨f4, rfl⟩⟩
        all_goals
          go_wp2
          go_round
          case rel => exact ⟨j + 1, by omega, by go_num⟩
          case measure => simp [intOf]; omega
      · have hge : ¬ (j : Int) < l.length := by omega
        go_wp2_with (go_at_call 30; refine (alive_bank _).mono ?_; rintro e w5 ⟨rfl, g5⟩)
        go_ret
        exact ⟨rfl, (HG2.out.trans HG3.out).trans g5⟩
end Go.Proofs.Ytojlaekckkelhaa
