/-
  The statements of the layer bank: what is alive; two accesses held against each other.
-/
import Derived.Test.YtojlaekckkelhaaBb
import Derived.Laws.StructEq
namespace Go.Proofs.Ytojlaekckkelhaa
set_option linter.unusedVariables false
set_option linter.unusedSimpArgs false
open Go.RowKit

theorem made_new (n : Int) (w : World) : Calls Try.prog 31 #[.int .i64 n] w (MadeBank w (List.replicate (newLen n) 0)) := by
  refine (new_any n w).mono fun e w' ⟨he, hw⟩ => ?_
  subst he; subst hw
  refine ⟨w.heap.size + 1, w.heap.size, rfl, ⟨?_, ?_, by simp⟩, ((Gr.refl w).alloc _).alloc _, by omega, by omega⟩
  · have e : bkRow w.heap.size ⟨List.replicate (newLen n) 0, 0, Acc.zero⟩ = #[.slice (some ⟨w.heap.size, 0, none⟩) (newLen n) (newLen n), .int .i64 0, .int .i64 0, .int .i64 0, .int .u64 0, .int .u64 0, .int .u64 0, .bool false] := by
      simp [bkRow, Acc.zero]
    rw [e]
    exact Blk.new' (by simp)
  · exact (Blk.new _ _ _).alloc _


theorem Two.from {n p q : Nat} (hp : n ≤ p) (hq : n ≤ q) : ∀ i, Two p q i → n ≤ i := by rintro i (rfl | rfl) <;> assumption

set_option maxHeartbeats 1000000 in
theorem alive_bank (w : World) : Calls Try.prog 30 #[] w fun e w' => e = .returned (.bool true) ∧ Gr w w' := by
  go_enter Try.func30, Try.ntmps30
  go_wp2_with fail
  refine (made_new 2 _).mono ?_
  rintro e w1 ⟨p, q, rfl, b0', g1, hp, hq⟩
  have b0 : IsBank w1 p q ⟨[0, 0], 0, Acc.zero⟩ := b0'
  clear b0'
  go_wp2_with fail
  refine (add_any _ _ _ 1 9 5 _ b0).mono ?_
  rintro e w2 ⟨rfl, b1, c1⟩
  have r : ((⟨[0, 0], 0, Acc.zero⟩ : Bk).add 1 9 5) = ⟨[0, 5], 1, ⟨4, 1, 9, 0, 5, true⟩⟩ := by kernel_rfl
  rw [r] at b1
  rw [r]
  clear r
  go_wp2_with fail
  refine (swap_any _ _ _ 1 9 5 7 _ b1).mono ?_
  rintro e w3 ⟨rfl, b2, c2⟩
  have r : ((⟨[0, 5], 1, ⟨4, 1, 9, 0, 5, true⟩⟩ : Bk).swap 1 9 5 7) = ⟨[0, 7], 2, ⟨3, 1, 9, 5, 7, true⟩⟩ := by kernel_rfl
  rw [r] at b2
  rw [r]
  clear r
  go_wp2_with fail
  refine (load_any _ _ _ 1 9 _ b2).mono ?_
  rintro e w4 ⟨rfl, b3, c3⟩
  have r : ((⟨[0, 7], 2, ⟨3, 1, 9, 5, 7, true⟩⟩ : Bk).load 1 9) = ⟨[0, 7], 3, ⟨1, 1, 9, 7, 7, true⟩⟩ := by kernel_rfl
  rw [r] at b3
  rw [r]
  clear r
  go_wp2_with fail
  refine (swap_any _ _ _ 1 9 5 8 _ b3).mono ?_
  rintro e w5 ⟨rfl, b4, c4⟩
  have r : ((⟨[0, 7], 3, ⟨1, 1, 9, 7, 7, true⟩⟩ : Bk).swap 1 9 5 8) = ⟨[0, 7], 4, ⟨3, 1, 9, 7, 7, false⟩⟩ := by kernel_rfl
  rw [r] at b4
  rw [r]
  clear r
  go_wp2_with fail
  refine (load_any _ _ _ 2 9 _ b4).mono ?_
  rintro e w6 ⟨rfl, b5, c5⟩
  have r : ((⟨[0, 7], 4, ⟨3, 1, 9, 7, 7, false⟩⟩ : Bk).load 2 9) = ⟨[0, 7], 5, ⟨1, 2, 9, 0, 0, false⟩⟩ := by kernel_rfl
  rw [r] at b5
  rw [r]
  clear r
  go_wp2_with fail
  refine (store_any _ _ _ 0 3 4 _ b5).mono ?_
  rintro e w7 ⟨rfl, b6, c6⟩
  have r : ((⟨[0, 7], 5, ⟨1, 2, 9, 0, 0, false⟩⟩ : Bk).store 0 3 4) = ⟨[4, 7], 6, ⟨2, 0, 3, 0, 4, true⟩⟩ := by kernel_rfl
  rw [r] at b6
  clear r
  go_wp2_with fail
  refine (cells_any _ _ _ _ b6 (by simp)).mono ?_
  rintro e w8 ⟨rfl, h8, g8⟩
  have b7 := b6.gr g8
  have x0 : w8.cell? ⟨w7.heap.size, 0, none⟩ = some (.int .u64 4) := h8.cell rfl
  go_wp2_with fail
  refine (count_any _ _ _ _ b7).mono ?_
  rintro e w9 ⟨rfl, rfl⟩
  go_wp2_with fail
  refine (last_any _ _ _ _ b7).mono ?_
  rintro e w9 ⟨rfl, g9⟩
  have x1 := g9.cell x0
  unfold Acc.val
  go_wp2_with fail
  go_ret
  have hf := Two.from hp hq
  exact ⟨rfl, (((((((g1.step c1 hf).step c2 hf).step c3 hf).step c4 hf).step c5 hf).step c6 hf).trans g8).trans g9⟩

theorem adds_back {v x y : Int} (hv : U64 v) : IntKind.u64.wrap (IntKind.u64.wrap (IntKind.u64.wrap (v + x) + y) + IntKind.u64.wrap (-IntKind.u64.wrap (x + y))) = v := by
  obtain ⟨h0, h1⟩ := hv
  simp only [IntKind.wrap_u64]
  omega

set_option maxHeartbeats 1000000 in
theorem adds_any (v x y : Int) (hv : U64 v) (w : World) : Calls Try.prog 14 #[.int .u64 v, .int .u64 x, .int .u64 y] w fun e w' => e = .returned (.bool true) ∧ Gr w w' := by
  go_enter Try.func14, Try.ntmps14
  go_wp2_with fail
  refine (of_any _ [v] _ (.inr ⟨⟨w.heap.size, 0, none⟩, 1, rfl, Nat.le_refl _, ?_⟩) (by simp)).mono ?_
  · intro i hi
    obtain rfl : i = 0 := by simpa using hi
    exact (Blk.new _ _ _).cell rfl
  rintro e w1 ⟨p, q, rfl, b0, g1, hp, hq⟩
  go_wp2_with fail
  refine (add_any _ _ _ 0 0 _ _ b0).mono ?_
  rintro e w2 ⟨rfl, b1, c1⟩
  have r : ((⟨[v], 0, Acc.zero⟩ : Bk).add 0 0 x) = ⟨[IntKind.u64.wrap (v + x)], 1, ⟨4, 0, 0, v, IntKind.u64.wrap (v + x), true⟩⟩ := by kernel_rfl
  rw [r] at b1
  rw [r]
  clear r
  go_wp2_with fail
  refine (add_any _ _ _ 0 0 _ _ b1).mono ?_
  rintro e w3 ⟨rfl, b2, c2⟩
  have r : ((⟨[IntKind.u64.wrap (v + x)], 1, ⟨4, 0, 0, v, IntKind.u64.wrap (v + x), true⟩⟩ : Bk).add 0 0 y) = ⟨[IntKind.u64.wrap (IntKind.u64.wrap (v + x) + y)], 2, ⟨4, 0, 0, IntKind.u64.wrap (v + x), IntKind.u64.wrap (IntKind.u64.wrap (v + x) + y), true⟩⟩ := by kernel_rfl
  rw [r] at b2
  rw [r]
  clear r
  go_wp2_with fail
  refine (add_any _ _ _ 0 0 _ _ b2).mono ?_
  rintro e w4 ⟨rfl, b3, c3⟩
  have r : ((⟨[IntKind.u64.wrap (IntKind.u64.wrap (v + x) + y)], 2, ⟨4, 0, 0, IntKind.u64.wrap (v + x), IntKind.u64.wrap (IntKind.u64.wrap (v + x) + y), true⟩⟩ : Bk).add 0 0 (IntKind.u64.wrap (-IntKind.u64.wrap (x + y)))) = ⟨[IntKind.u64.wrap (IntKind.u64.wrap (IntKind.u64.wrap (v + x) + y) + IntKind.u64.wrap (-IntKind.u64.wrap (x + y)))], 3, ⟨4, 0, 0, IntKind.u64.wrap (IntKind.u64.wrap (v + x) + y), IntKind.u64.wrap (IntKind.u64.wrap (IntKind.u64.wrap (v + x) + y) + IntKind.u64.wrap (-IntKind.u64.wrap (x + y))), true⟩⟩ := by kernel_rfl
  rw [r, adds_back hv] at b3
  rw [r]
  clear r
  go_wp2_with fail
  refine (alive_bank _).mono ?_
  rintro e w5 ⟨rfl, g2⟩
  have b4 := b3.gr g2
  go_wp2_with fail
  refine (load_any _ _ _ 0 0 _ b4).mono ?_
  rintro e w6 ⟨rfl, b5, c4⟩
  have r : ((⟨[v], 3, ⟨4, 0, 0, IntKind.u64.wrap (IntKind.u64.wrap (v + x) + y), v, true⟩⟩ : Bk).load 0 0) = ⟨[v], 4, ⟨1, 0, 0, v, v, true⟩⟩ := by kernel_rfl
  rw [r]
  clear r
  go_wp2_with fail
  go_ret
  have hf := Two.from (n := w.heap.size) (Nat.le_trans (by simp) hp) (Nat.le_trans (by simp) hq)
  exact ⟨rfl, (((((((Gr.refl w).alloc _).trans g1).step c1 hf).step c2 hf).step c3 hf).trans g2).step c4 hf⟩
end Go.Proofs.Ytojlaekckkelhaa
