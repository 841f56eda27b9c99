/-
  The statement of the layer bank that what is written into cells that were handed over changes no bank.
-/
import Derived.Test.YtojlaekckkelhaaBe
import Derived.Test.YtojlaekckkelhaaHeapb
namespace Go.Proofs.Ytojlaekckkelhaa
set_option linter.unusedVariables false
set_option linter.unusedSimpArgs false
open Go.RowKit

/-- The first cells of a block are words. -/
def Ints (w : World) (q n : Nat) : Prop := ∃ cur : Array Value, Blk w q cur 22 ∧ ∀ i, i < n → ∃ x : Int, cur[i]? = some (.int .u64 x)

theorem Ints.cell {w : World} {q n k : Nat} (h : Ints w q n) (hk : k < n) : ∃ x : Int, w.cell? ⟨q, k, none⟩ = some (.int .u64 x) := by
  obtain ⟨cur, hb, hg⟩ := h
  obtain ⟨x, hx⟩ := hg k hk
  exact ⟨x, hb.cell hx⟩
theorem Ints.free {w : World} {q n : Nat} (h : Ints w q n) (k : Nat) : w.frozen? ⟨q, k, none⟩ = false := by
  obtain ⟨cur, hb, hg⟩ := h
  exact hb.free k
theorem Ints.set {w : World} {q n : Nat} (h : Ints w q n) (k : Nat) (y : Int) : Ints (w.setCell ⟨q, k, none⟩ (.int .u64 y)) q n := by
  obtain ⟨cur, hb, hg⟩ := h
  refine ⟨_, hb.set k _, fun i hi => ?_⟩
  obtain ⟨x, hx⟩ := hg i hi
  have hlt := (Array.getElem?_eq_some_iff.1 hx).1
  by_cases hik : k = i
  · subst hik; exact ⟨y, by rw [Array.getElem?_setIfInBounds_self_of_lt hlt]⟩
  · exact ⟨x, by rw [Array.getElem?_setIfInBounds_ne hik]; exact hx⟩
theorem OwnWords.ints {w : World} {q cap : Nat} {cur : Array Value} {l : List Int} (h : OwnWords w q cap cur l) : Ints w q l.length := ⟨cur, h.blk, fun i hi => ⟨_, h.get i hi⟩⟩
theorem Blk.ints {w : World} {q : Nat} {l : List Int} (h : Blk w q (wordsRow l) 22) : Ints w q l.length := ⟨_, h, fun i hi => ⟨l.getD i 0, by simp [wordsRow_get, List.getD, hi]⟩⟩
theorem Ints.chg {F : Nat → Prop} {w w' : World} {q n : Nat} (h : Ints w q n) (g : Chg F w w') (hf : ¬ F q) : Ints w' q n := by
  obtain ⟨cur, hb, hg⟩ := h
  exact ⟨cur, hb.chg g hf, hg⟩

set_option maxHeartbeats 1000000 in
theorem own_any (v : Value) (l : List Int) (w : World) (hv : Words w v l) : Calls Try.prog 13 #[v] w fun e w' => e = .returned (.bool true) ∧ Gr w w' := by
  obtain ⟨a, cap, rfl⟩ := hv.slice
  have HV := hid hv
  clear hv
  by_cases h : (500 : Int) < l.length
  · go_enter Try.func13, Try.ntmps13
    go_wp2_with (go_at_call 30; refine (alive_bank _).mono ?_; rintro e w2 ⟨rfl, g2⟩)
    go_ret
    exact ⟨rfl, g2⟩
  · have hl : l.length ≤ 500 := by omega
    clear h
    have d : ¬ (500 : Int) < l.length := by omega
    go_enter Try.func13, Try.ntmps13
    go_wp2_with (with_reducible refine wpList_append_words rfl (.tmp 12) (.tmp 13) 37 rfl Try.underlying37 info22 w.heap.size l _ rfl rfl ?c1 ?c2 ?c3 ?_)
    case c1 => exact Blk.new _ _ _
    case c2 => exact HV.out.gr ((Gr.refl w).alloc _)
    case c3 => omega
    intro q0 cap0 cur0 w1 hq0 ho c0
    go_wp2_with fail
    refine (of_any _ l _ ho.out.words (by omega)).mono ?_
    rintro e w2 ⟨p, q, rfl, b0, g1, hp, hq⟩
    go_wp2_with fail
    refine (cells_any _ _ _ _ b0 (by simp; omega)).mono ?_
    rintro e w3 ⟨rfl, hm, g2⟩
    have b1 := b0.gr g2
    have HI := hid (ho.out.ints.chg (Gr.chg (F := fun _ => False) (g1.trans g2)) (fun h => h))
    have HM := hid (Blk.ints hm)
    have HB := hid b1
    have HL := hid (And.intro b0.head.lt b0.row.lt)
    clear b0 b1 hm
    go_wp2
    go_loopw [6, 23] (fun _ i wr => ∃ k : Nat, k ≤ l.length ∧ i = .int .i64 k ∧ Ints wr q0 l.length ∧ Chg (· = q0) w3 wr) (fun _ i _ => l.length - (intOf i).toNat)
    case atStart => exact ⟨0, Nat.zero_le _, rfl, HI.out, Chg.refl _ _⟩
    case round =>
      obtain ⟨k, hk, rfl, hi, hc⟩ := hrel
      by_cases hlt : k < l.length
      · obtain ⟨x, hx⟩ := hi.cell hlt
        have hf := hi.free k
        have hlt' : (k : Int) < l.length := by omega
        have hk0 : 0 ≤ (k : Int) := by omega
        go_wp2
        go_roundw
        case rel => exact ⟨k + 1, by omega, by go_num, hi.set _ _, hc.setCell (.inl rfl) _⟩
        case measure => simp [intOf]; omega
      · have hge : ¬ (k : Int) < l.length := by omega
        obtain ⟨wo, rfl⟩ : ∃ wo : World, wo = wr := ⟨_, rfl⟩
        have HC := hid hc
        have hM : Ints wo w2.heap.size l.length := HM.out.chg hc (fun e => by have := ho.out.blk.lt; have := g1.size; omega)
        have HN := hid hM
        clear hi hc hM hlt hk
        go_wp2
        clear hge
        go_loopw [7, 35] (fun _ i wr => ∃ k : Nat, k ≤ l.length ∧ i = .int .i64 k ∧ Ints wr w2.heap.size l.length ∧ Chg (· = w2.heap.size) wo wr) (fun _ i _ => l.length - (intOf i).toNat)
        case atStart => exact ⟨0, Nat.zero_le _, rfl, HN.out, Chg.refl _ _⟩
        case round =>
          obtain ⟨j, hj, rfl, hi, hc⟩ := hrel
          by_cases hlt : j < l.length
          · obtain ⟨x, hx⟩ := hi.cell hlt
            have hf := hi.free j
            have hlt' : (j : Int) < l.length := by omega
            have hk0 : 0 ≤ (j : Int) := by omega
            go_wp2
            go_roundw
            case rel => exact ⟨j + 1, by omega, by go_num, hi.set _ _, hc.setCell (.inl rfl) _⟩
            case measure => simp [intOf]; omega
          · have hge : ¬ (j : Int) < l.length := by omega
            have l1 := ho.out.blk.lt
            have l2 := HB.out.head.lt
            have l3 := HB.out.row.lt
            have l4 := g1.size
            have l5 := HL.out.1
            have l6 := HL.out.2
            have hb2 := (HB.out.chg HC.out (by omega) (by omega)).chg hc (by omega) (by omega)
            have hgr : Gr w wr := ((((((Gr.refl w).alloc _).step c0 (by omega)).trans g1).trans g2).step HC.out (by omega)).step hc (by omega)
            have HB2 := hid hb2
            have HG := hid hgr
            clear hb2 hgr hi hc
            go_wp2_with fail
            refine (alive_bank _).mono ?_
            rintro e w4 ⟨rfl, g3⟩
            go_wp2_with fail
            refine (cells_any _ _ _ _ (HB2.out.gr g3) (by simp; omega)).mono ?_
            rintro e w5 ⟨rfl, hm, g4⟩
            have hg5 := (HG.out.trans g3).trans g4
            go_wp2_with fail
            refine (same_yes _ _ l _ hm.words (HV.out.gr hg5) (by omega)).mono ?_
            rintro e w6 ⟨rfl, g5⟩
            go_wp2_with fail
            go_ret
            exact ⟨rfl, hg5.trans g5⟩
end Go.Proofs.Ytojlaekckkelhaa
