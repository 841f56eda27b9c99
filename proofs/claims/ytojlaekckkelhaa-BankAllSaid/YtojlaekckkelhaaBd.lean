/-
  The statements of the layer bank: two swaps that ask for the same.
-/
import Derived.Test.YtojlaekckkelhaaBc
namespace Go.Proofs.Ytojlaekckkelhaa
set_option linter.unusedVariables false
set_option linter.unusedSimpArgs false
open Go.RowKit

/-- A slice of words that came in, as the walk wants it. -/
def Slice (v : Value) (l : List Int) : Prop := ∃ (a : Option Addr) (cap : Nat), v = .slice a l.length cap

/-- A call that makes new memory alone, in a region. -/
theorem Calls.st_gr {P : Program} {f : FuncId} {args : Array Value} {w0 : World} {s : St (Gr w0)} {v : Value}
    (h : Calls P f args s.val fun e w' => e = .returned v ∧ Gr s.val w') : Calls P f args s.val fun e w'' => e = .returned v ∧ ∃ s' : St (Gr w0), w'' = s'.val :=
  h.mono fun _ w' ⟨he, hi⟩ => ⟨he, ⟨w', s.ok.trans hi⟩, rfl⟩

theorem Words.slice {w : World} {v : Value} {l : List Int} (h : Words w v l) : ∃ (a : Option Addr) (cap : Nat), v = .slice a l.length cap := by
  rcases h with ⟨rfl, rfl⟩ | ⟨a, cap, rfl, _⟩
  · exact ⟨none, 0, rfl⟩
  · exact ⟨some a, cap, rfl⟩

set_option maxHeartbeats 1000000 in
theorem swaps_out (v : Value) (l : List Int) (cell z0 z1 z2 : Int) (w : World) (hv : Words w v l) (hl : l.length ≤ 17592186044416) (h : 500 < l.length ∨ cell < 0 ∨ (l.length : Int) ≤ cell) :
    Calls Try.prog 12 #[v, .int .i64 cell, .agg #[.int .u64 z0, .int .u64 z1, .int .u64 z2]] w fun e w' => e = .returned (.bool true) ∧ Gr w w' := by
  obtain ⟨a, cap, rfl⟩ := hv.slice
  have hc : (500 : Int) < l.length ∨ (¬ (500 : Int) < l.length ∧ cell < 0) ∨ (¬ (500 : Int) < l.length ∧ ¬ cell < 0 ∧ (l.length : Int) ≤ cell) := by omega
  have HV := hid hv
  clear hv h
  rcases hc with h1 | ⟨h1, h2⟩ | ⟨h1, h2, h3⟩
  all_goals
    go_enter Try.func12, Try.ntmps12
    go_wp2_with fail
    refine (of_any _ l _ (HV.out.gr ((Gr.refl w).alloc _)) hl).mono ?_
    rintro e w1 ⟨p, q, rfl, b0, g1, hp, hq⟩
    go_wp2_with (go_at_call 30; refine (alive_bank _).mono ?_; rintro e w2 ⟨rfl, g2⟩)
    go_ret
    exact ⟨rfl, (((Gr.refl w).alloc _).trans g1).trans g2⟩

theorem swaps_plain (l : List Int) (n : Nat) (x z0 z1 z2 : Int) (hn : n < l.length) (hx : l.getD n 0 = x) :
    ((⟨l, 0, Acc.zero⟩ : Bk).swap n 0 z0 z1).last.done = swapIs z0 x ∧ (((⟨l, 0, Acc.zero⟩ : Bk).swap n 0 z0 z1).swap n 0 z0 z2).last.done = swapIs z0 (swapTo z0 z1 x) := by
  have h1 : (⟨l, 0, Acc.zero⟩ : Bk).has n = true := by simp only [Bk.has, decide_eq_true_eq]; omega
  have g1 : (⟨l, 0, Acc.zero⟩ : Bk).get n = x := by simpa [Bk.get] using hx
  have e1 : (⟨l, 0, Acc.zero⟩ : Bk).swap n 0 z0 z1 = ⟨l.set n (swapTo z0 z1 x), wrap64 (0 + 1), ⟨3, n, 0, x, swapTo z0 z1 x, swapIs z0 x⟩⟩ := by
    unfold Bk.swap; rw [if_pos h1, g1]; rfl
  rw [e1]
  refine ⟨rfl, ?_⟩
  have h2 : (⟨l.set n (swapTo z0 z1 x), wrap64 (0 + 1), ⟨3, n, 0, x, swapTo z0 z1 x, swapIs z0 x⟩⟩ : Bk).has n = true := by simp only [Bk.has, decide_eq_true_eq, List.length_set]; omega
  have g2 : (⟨l.set n (swapTo z0 z1 x), wrap64 (0 + 1), ⟨3, n, 0, x, swapTo z0 z1 x, swapIs z0 x⟩⟩ : Bk).get n = swapTo z0 z1 x := by
    simp [Bk.get, hn]
  unfold Bk.swap
  rw [if_pos h2, g2]
  rfl

set_option maxHeartbeats 1000000 in
theorem swaps_in (a : Addr) (cap : Nat) (l : List Int) (n : Nat) (z0 z1 z2 x : Int) (w : World) (hv : Words w (.slice (some a) l.length cap) l) (hl : l.length ≤ 500) (hn : n < l.length) (hcap : l.length ≤ cap) (hx : l.getD n 0 = x) :
    Calls Try.prog 12 #[.slice (some a) l.length cap, .int .i64 n, .agg #[.int .u64 z0, .int .u64 z1, .int .u64 z2]] w fun e w' => e = .returned (.bool true) ∧ Gr w w' := by
  have HV := hid hv
  have cx : w.cell? (a.add n) = some (.int .u64 x) := by
    rcases hv with ⟨e, _⟩ | ⟨a', cap', e, _, h⟩
    · simp at e
    · cases e; rw [← hx]; exact h n hn
  have d1 : ¬ (500 : Int) < l.length := by omega
  have d2 : (n : Int) < l.length := by omega
  have d3 : 0 ≤ (n : Int) := by omega
  clear hv
  go_enter Try.func12, Try.ntmps12
  go_wp2_with fail
  refine (of_any _ l _ (HV.out.gr ((Gr.refl w).alloc _)) (by omega)).mono ?_
  rintro e w1 ⟨p, q, rfl, b0, g1, hp, hq⟩
  have y0 := g1.cell (a := ⟨w.heap.size, 0, none⟩) (v := .int .u64 z0) (by simp [go_sem])
  have y1 := g1.cell (a := ⟨w.heap.size, 1, none⟩) (v := .int .u64 z1) (by simp [go_sem])
  have y2 := g1.cell (a := ⟨w.heap.size, 2, none⟩) (v := .int .u64 z2) (by simp [go_sem])
  obtain ⟨s1, s2⟩ := swaps_plain l n x z0 z1 z2 hn hx
  have hcase : (swapIs z0 x = true ∧ swapIs z0 (swapTo z0 z1 x) = true ∧ (x == z0) = true ∧ (z1 == z0) = true) ∨ (swapIs z0 x = true ∧ swapIs z0 (swapTo z0 z1 x) = false ∧ (x == z0) = true ∧ (z1 == z0) = false) ∨
      (swapIs z0 x = false ∧ swapIs z0 (swapTo z0 z1 x) = false ∧ (x == z0) = false) := by
    unfold swapIs swapTo
    by_cases h1 : x = z0
    · by_cases h2 : z1 = z0 <;> simp [h1, h2]
    · simp [h1]
  rcases hcase with ⟨r1, r2, r3, r4⟩ | ⟨r1, r2, r3, r4⟩ | ⟨r1, r2, r3⟩
  all_goals
    go_wp2_with fail
    refine (swap_any _ _ _ n 0 z0 z1 _ b0).mono ?_
    rintro e w2 ⟨rfl, b1, c1⟩
    have hf := Two.from hp hq
    simp only [World.size_alloc] at hf
    have nd : ¬ Two p q w.heap.size := fun h => by have := hf _ h; omega
    have u0 := c1.cell y0 nd
    have u1 := c1.cell y1 nd
    have u2 := c1.cell y2 nd
    rw [s1, r1]
    clear y0 y1 y2 s1
    go_wp2_with fail
    refine (swap_any _ _ _ n 0 z0 z2 _ b1).mono ?_
    rintro e w3 ⟨rfl, b2, c2⟩
    have t0 := c2.cell u0 nd
    have t1 := c2.cell u1 nd
    rw [s2, r2]
    have cx1 := ((g1.cell (((Gr.refl w).alloc _).cell cx)))
    have cx2 := c1.cell cx1 (fun h => by have := hf _ h; have := lt_of_cell cx; simp [Addr.add] at *; omega)
    have cx3 := c2.cell cx2 (fun h => by have := hf _ h; have := lt_of_cell cx; simp [Addr.add] at *; omega)
    clear u0 u1 u2 cx cx1 cx2 s2
    go_wp2_with fail
    refine wp_region_inv (Gr w3) (by kernel_rfl) (by kernel_rfl) (Gr.refl w3).drew ?_
    have hne : Nonempty (St (Gr w3)) := ⟨⟨w3, Gr.refl _⟩⟩
    have v0 : ∀ s : St (Gr w3), s.val.cell? ⟨w.heap.size, 0, none⟩ = some (.int .u64 z0) := fun s => s.ok.cell t0
    have v1 : ∀ s : St (Gr w3), s.val.cell? ⟨w.heap.size, 1, none⟩ = some (.int .u64 z1) := fun s => s.ok.cell t1
    have vx : ∀ s : St (Gr w3), s.val.cell? (a.add n) = some (.int .u64 x) := fun s => s.ok.cell cx3
    repeat (go_big_quiet_step ((go_at_call 30; exact Calls.st_gr (alive_bank _))))
    refine wpQuiet_nil ?_
    rintro _ ⟨⟨w5, g5⟩, rfl⟩
    go_wp2
    go_ret
    have hf' : ∀ i, Two p q i → w.heap.size ≤ i := fun i hi => by have := hf i hi; omega
    exact ⟨rfl, ((((((Gr.refl w).alloc _).trans g1).step c1 hf').step c2 hf').trans g5)⟩

theorem swaps_any (w : World) (v : Value) (l : List Int) (hv : Words w v l) (hl : l.length ≤ 17592186044416) (cell z0 z1 z2 : Int) :
    Calls Try.prog 12 #[v, .int .i64 cell, .agg #[.int .u64 z0, .int .u64 z1, .int .u64 z2]] w fun e w' => e = .returned (.bool true) ∧ Gr w w' := by
  by_cases h : 500 < l.length ∨ cell < 0 ∨ (l.length : Int) ≤ cell
  · exact swaps_out v l cell z0 z1 z2 w hv hl h
  · obtain ⟨n, rfl⟩ := Int.eq_ofNat_of_zero_le (by omega : 0 ≤ cell)
    rcases hv with ⟨rfl, rfl⟩ | ⟨a, cap, rfl, hc, he⟩
    · simp at h
    · exact swaps_in a cap l n z0 z1 z2 _ w (.inr ⟨a, cap, rfl, hc, he⟩) (by omega) (by omega) hc rfl
end Go.Proofs.Ytojlaekckkelhaa
