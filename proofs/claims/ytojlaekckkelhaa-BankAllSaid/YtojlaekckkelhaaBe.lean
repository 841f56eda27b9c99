/-
  The walks of the reference of the layer bank.
-/
import Derived.Test.YtojlaekckkelhaaBd
namespace Go.Proofs.Ytojlaekckkelhaa
set_option linter.unusedVariables false
set_option linter.unusedSimpArgs false
open Go.RowKit

theorem Words.elem {w : World} {a : Addr} {cap : Nat} {l : List Int} (h : Words w (.slice (some a) l.length cap) l) {i : Nat} (hi : i < l.length) : w.cell? (a.add i) = some (.int .u64 (l.getD i 0)) := by
  rcases h with ⟨e, _⟩ | ⟨a', cap', e, _, h⟩
  · simp at e
  · cases e; exact h i hi
theorem Words.cap {w : World} {a : Addr} {cap : Nat} {l : List Int} (h : Words w (.slice (some a) l.length cap) l) : l.length ≤ cap := by
  rcases h with ⟨e, _⟩ | ⟨a', cap', e, hc, h⟩
  · simp at e
  · cases e; exact hc
theorem Words.addr {w : World} {v : Value} {l : List Int} (h : Words w v l) (hl : l ≠ []) : ∃ (a : Addr) (cap : Nat), v = .slice (some a) l.length cap := by
  rcases h with ⟨_, e⟩ | ⟨a, cap, e, _⟩
  · exact absurd e hl
  · exact ⟨a, cap, e⟩

set_option maxHeartbeats 1000000 in
theorem same_yes (v u : Value) (l : List Int) (w : World) (hv : Words w v l) (hu : Words w u l) (hl : l.length ≤ 17592186044416) :
    Calls Try.prog 32 #[v, u] w fun e w' => e = .returned (.bool true) ∧ Gr w w' := by
  by_cases h0 : l = []
  · subst h0
    obtain ⟨a, cap, rfl⟩ := hv.slice
    obtain ⟨b, cap', rfl⟩ := hu.slice
    clear hv hu
    go_enter Try.func32, Try.ntmps32
    go_wp2
    go_loop [5] (fun i => i = .int .i64 0) (fun _ => 0)
    case atStart => rfl
    case round =>
      obtain rfl := hrel
      go_wp2
      go_ret
      exact ⟨rfl, Gr.refl _⟩
  · obtain ⟨a, cap, rfl⟩ := hv.addr h0
    obtain ⟨b, cap', rfl⟩ := hu.addr h0
    have HV := hid hv
    have HU := hid hu
    have hneq : ((l.length : Int) != l.length) = false := by simp
    clear hv hu h0
    go_enter Try.func32, Try.ntmps32
    go_wp2
    go_loopw [5] (fun i wr => ∃ k n : Nat, k ≤ l.length ∧ i = .int .i64 k ∧ wr = w.drewN n) (fun i _ => l.length - (intOf i).toNat)
    case atStart => exact ⟨0, 0, Nat.zero_le _, rfl, rfl⟩
    case round =>
      obtain ⟨k, m, hk, rfl, rfl⟩ := hrel
      by_cases hlt : k < l.length
      · obtain ⟨x, hx⟩ : ∃ x, l.getD k 0 = x := ⟨_, rfl⟩
        have ca := HV.out.elem hlt
        have cb := HU.out.elem hlt
        rw [hx] at ca cb
        have hlt' : (k : Int) < l.length := by omega
        have hk0 : 0 ≤ (k : Int) := by omega
        have hne : (x != x) = false := by simp
        clear hx
        go_wp2
        go_quiet (fail)
        go_wp2
        go_roundw
        case rel => exact ⟨k + 1, m + nq, by omega, by go_num, by simp⟩
        case measure => simp [intOf]; omega
      · have hge : ¬ (k : Int) < l.length := by omega
        go_wp2
        go_ret
        exact ⟨rfl, (Gr.refl _).drewN _⟩

/-- A reference's bank, as a value: its slice is 's'. -/
def rval (s : Value) (count : Int) (a : Acc) : Value := .agg #[s, .int .i64 count, .int .i64 a.kind, .int .i64 a.cell, .int .u64 a.via, .int .u64 a.old, .int .u64 a.new, .bool a.done]

theorem field_c (a : Option Addr) (n c : Nat) (i1 i2 i3 i4 i5 i6 : Int) (f : Bool) (w : World) : (Instr.field 42 (.agg #[.slice a n c, .int .i64 i1, .int .i64 i2, .int .i64 i3, .int .u64 i4, .int .u64 i5, .int .u64 i6, .bool f]) 0).run Try.prog w = .ok (.slice a n c) w := by kernel_rfl

/-- A reference's new bank. -/
def RNew (w : World) (k : Nat) (e : Ending) (w' : World) : Prop := ∃ q : Nat, e = .returned (rval (.slice (some ⟨q, 0, none⟩) k k) 0 Acc.zero) ∧ Blk w' q (zrow k) 22 ∧ Gr w w'

set_option maxHeartbeats 1000000 in
theorem rnew_any (n : Int) (w : World) : Calls Try.prog 34 #[.int .i64 n] w (RNew w (newLen n)) := by
  by_cases h1 : n < 0
  · have hmk : ∀ w : World, (Instr.makeSlice 37 (.int .i64 0) (.int .i64 0)).run Try.prog w = .ok (.slice (some ⟨w.heap.size, 0, none⟩) 0 0) (w.alloc (.cells (zrow 0) 22)) := run_make 0 (by omega)
    have e0 : newLen n = 0 := by unfold newLen; omega
    rw [e0]
    clear e0
    go_enter Try.func34, Try.ntmps34
    go_wp2
    refine bodyPost_ret (v := rval (.slice (some ⟨w.heap.size + 1, 0, none⟩) 0 0) 0 Acc.zero) (by simp [results, Try.results34, go_sem, rval, Acc.zero]) rfl ⟨w.heap.size + 1, rfl, Blk.new' (by simp), ((Gr.refl w).alloc _).alloc _⟩
  · by_cases h2 : 100000 < n
    · have hmk : ∀ w : World, (Instr.makeSlice 37 (.int .i64 100000) (.int .i64 100000)).run Try.prog w = .ok (.slice (some ⟨w.heap.size, 0, none⟩) 100000 100000) (w.alloc (.cells (zrow 100000) 22)) := by
        have h := run_make 100000 (by omega)
        have e : ((100000 : Nat) : Int) = 100000 := by omega
        rw [e] at h
        exact h
      have e0 : newLen n = 100000 := by unfold newLen; omega
      rw [e0]
      clear e0
      go_enter Try.func34, Try.ntmps34
      go_wp2
      refine bodyPost_ret (v := rval (.slice (some ⟨w.heap.size + 1, 0, none⟩) 100000 100000) 0 Acc.zero) (by simp [results, Try.results34, go_sem, rval, Acc.zero]) rfl ⟨w.heap.size + 1, rfl, Blk.new' (by simp), ((Gr.refl w).alloc _).alloc _⟩
    · obtain ⟨k, rfl⟩ := Int.eq_ofNat_of_zero_le (by omega : 0 ≤ n)
      have hmk := run_make k (by omega)
      have e0 : newLen k = k := by unfold newLen; omega
      rw [e0]
      clear e0
      go_enter Try.func34, Try.ntmps34
      go_wp2
      refine bodyPost_ret (v := rval (.slice (some ⟨w.heap.size + 1, 0, none⟩) k k) 0 Acc.zero) (by simp [results, Try.results34, go_sem, rval, Acc.zero]) rfl ⟨w.heap.size + 1, rfl, Blk.new' (by simp), ((Gr.refl w).alloc _).alloc _⟩

theorem Blk.words {w : World} {q : Nat} {l : List Int} (h : Blk w q (wordsRow l) 22) : Words w (.slice (some ⟨q, 0, none⟩) l.length l.length) l := by
  refine .inr ⟨⟨q, 0, none⟩, _, rfl, Nat.le_refl _, fun i hi => ?_⟩
  have h1 : w.cell? ⟨q, i, none⟩ = some (.int .u64 (l.getD i 0)) := h.cell (by simp [wordsRow_get, List.getD, hi])
  by_cases h0 : i = 0
  · subst h0; simpa [Addr.add] using h1
  · simpa [Addr.add, h0] using h1

theorem Words.chg {F : Nat → Prop} {w w' : World} {v : Value} {l : List Int} (h : Words w v l) (g : Chg F w w') (hf : ∀ a n c, v = .slice (some a) n c → ¬ F a.block) : Words w' v l := by
  rcases h with h | ⟨a, cap, e, hc, h⟩
  · exact .inl h
  · exact .inr ⟨a, cap, e, hc, fun i hi => g.cell (h i hi) (by have := hf a _ _ e; simpa [Addr.add, apply_ite] using this)⟩

set_option maxHeartbeats 1000000 in
theorem banknew_any (n : Int) (w : World) : Calls Try.prog 9 #[.int .i64 n] w fun e w' => e = .returned (.bool true) ∧ Gr w w' := by
  by_cases h : 2000 < n
  · go_enter Try.func9, Try.ntmps9
    go_wp2_with (go_at_call 30; refine (alive_bank _).mono ?_; rintro e w2 ⟨rfl, g2⟩)
    go_ret
    exact ⟨rfl, g2⟩
  · have hk : newLen n ≤ 2000 := by unfold newLen; omega
    have hfc := field_c
    go_enter Try.func9, Try.ntmps9
    go_wp2_with fail
    refine (made_new n _).mono ?_
    rintro e w1 ⟨p, q, rfl, b0, g1, hp, hq⟩
    go_wp2_with fail
    refine (cells_any _ _ _ _ b0 (by simp; omega)).mono ?_
    rintro e w2 ⟨rfl, h2, g2⟩
    go_wp2_with fail
    refine (rnew_any n _).mono ?_
    rintro e w3 ⟨q', rfl, h3, g3⟩
    unfold rval
    go_wp2_with fail
    refine (same_yes _ _ (List.replicate (newLen n) 0) _ (by simpa using (h2.gr g3).words) (by simpa using Blk.words (l := List.replicate (newLen n) 0) h3) (by simp; omega)).mono ?_
    rintro e w4 ⟨rfl, g4⟩
    have b1 := ((b0.gr g2).gr g3).gr g4
    go_wp2_with fail
    refine (count_any _ _ _ _ b1).mono ?_
    rintro e w5 ⟨rfl, rfl⟩
    go_wp2_with fail
    refine (last_any _ _ _ _ b1).mono ?_
    rintro e w5 ⟨rfl, g5⟩
    unfold Acc.val Acc.zero
    go_wp2_with fail
    refine (alive_bank _).mono ?_
    rintro e w6 ⟨rfl, g6⟩
    go_wp2_with fail
    go_ret
    exact ⟨rfl, ((((g1.trans g2).trans g3).trans g4).trans g5).trans g6⟩
end Go.Proofs.Ytojlaekckkelhaa
