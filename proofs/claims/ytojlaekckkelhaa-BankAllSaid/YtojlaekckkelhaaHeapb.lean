/-
  'append([]uint64{}, v...)': a new row of the words of a slice. Over any program.
-/
import Derived.Test.YtojlaekckkelhaaHeap
import Derived.Laws.AppendOwnNone
import Derived.OwnWalk
namespace Go.Proofs.Ytojlaekckkelhaa
set_option linter.unusedVariables false
set_option linter.unusedSimpArgs false
open Go.RowKit

/-- A row of words of the call's own, from its head on. -/
structure OwnWords (w : World) (q cap : Nat) (cur : Array Value) (l : List Int) : Prop where
  blk : Blk w q cur 22
  size : cur.size = cap
  le : l.length ≤ cap
  get : ∀ i, i < l.length → cur[i]? = some (.int .u64 (l.getD i 0))

theorem OwnWords.words {w : World} {q cap : Nat} {cur : Array Value} {l : List Int} (h : OwnWords w q cap cur l) : Words w (.slice (some ⟨q, 0, none⟩) l.length cap) l := by
  refine .inr ⟨⟨q, 0, none⟩, cap, rfl, h.le, fun i hi => ?_⟩
  have h1 : w.cell? ⟨q, i, none⟩ = some (.int .u64 (l.getD i 0)) := h.blk.cell (h.get i hi)
  by_cases h0 : i = 0
  · subst h0; simpa [Addr.add] using h1
  · simpa [Addr.add, h0] using h1

theorem wpList_append_words {P : Program} {w : World} {ops : Array Oper} {rest : List Oper} {o : Oper} {a : Act} {Q : Exit → Act → World → Prop} (hgd : o.guard = none) (s x : Operand) (t : TypeId)
    (ho : o.op = .call { callee := .builtin .append, args := #[s, x], argTypes := #[t, t] }) (ht : P.underlying t = some (.slice 22)) (hinfo : (P.info? 22).map (fun i => (i.zero, i.size, i.bytes)) = some (some (.int .u64 0), 1, 8))
    (g : Nat) (l : List Int) (v : Value) (hs : a.eval s = .slice (some ⟨g, 0, none⟩) 0 0) (hx : a.eval x = v) (hg : Blk w g #[] 22) (hv : Words w v l) (hl : l.length ≤ 17592186044416)
    (h : ∀ q cap cur w', g ≤ q → Hid (OwnWords w' q cap cur l) → Chg (· = g) w w' → wpList P ops Q rest (a.put o.dst (.slice (some ⟨q, 0, none⟩) l.length cap)) w') :
    wpList P ops Q (o :: rest) a w := by
  obtain ⟨i0, hi, hz0, hz1, hz2⟩ := info_parts hinfo
  have hown : w.ownsRow g 22 1 (.slice (some ⟨g, 0, none⟩) 0 0) 0 [] := ⟨rfl, .inr ⟨g, 0, #[], rfl, Nat.le_refl _, hg, Nat.le_refl _, Nat.zero_le _, rfl, rfl⟩⟩
  rcases hv with ⟨rfl, rfl⟩ | ⟨ad, cp, rfl, hc, hcell⟩
  · refine wpList_append_own_none hgd s x t ho g 22 i0 1 ht hi _ 0 [] hs hown hx ?_
    exact h g 0 #[] w (Nat.le_refl _) ⟨hg, rfl, Nat.le_refl _, fun i hi => absurd hi (Nat.not_lt_zero _)⟩ (Chg.refl _ _)
  · refine wpList_append_own w hgd s x t ho g 22 i0 (.int .u64 0) 1 8 ht hi hz0 hz1 hz2 rfl (by decide) _ 0 [] hs hown ad l.length cp (l.map (Value.int .u64)) hx (by simp) ?_ ?_ (by simp [maxLen]; omega) (by omega) (Nat.le_of_lt hg.lt) ?_
    · intro j u hu
      rw [List.getElem?_map] at hu
      cases hj : l[j]? with
      | none => simp [hj] at hu
      | some y =>
        have hlt := (List.getElem?_eq_some_iff.1 hj).1
        have h1 := hcell j hlt
        simp only [hj, Option.map_some, Option.some.injEq] at hu
        rw [← hu, h1]
        simp [List.getD, hj]
    · intro u hu
      obtain ⟨y, _, rfl⟩ := List.mem_map.1 hu
      rfl
    · intro v' w' hown' hgrow hnil
      simp only [Nat.zero_add, List.nil_append] at hown'
      obtain ⟨hlen, hv' | ⟨q, cap, cur, rfl, hq, hh, hn, hcap, hsize, htake⟩⟩ := hown'
      · have := hnil.1 hv'.1
        simp at this
      · refine h q cap cur w' hq ⟨hh, by simpa using hsize, hn, fun i hi => ?_⟩ ⟨hgrow.os, hgrow.tape, hgrow.output, hgrow.size, fun k hk hne => hgrow.block k hk (by simp [Value.ownBlock]; exact hne)⟩
        have h1 : (cur.toList.take (l.length * 1))[i]? = (l.map (Value.int .u64))[i]? := by rw [htake]
        simp only [Nat.mul_one, List.getElem?_take, hi, if_true] at h1
        simp only [Array.getElem?_toList] at h1
        rw [h1]
        simp [List.getD, hi]
end Go.Proofs.Ytojlaekckkelhaa
