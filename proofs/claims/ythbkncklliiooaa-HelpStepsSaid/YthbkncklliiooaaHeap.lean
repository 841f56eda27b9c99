/-
  Blocks of memory that are known whole; what is there behind stores, new blocks and draws. Over any program.
-/
import Derived.Test.YthbkncklliiooaaHp
import Derived.WalkKit
import Derived.OneCell
import Derived.Deep.QuietTactic
import Derived.BigQuiet
import Derived.Laws.CopyOwn
namespace Go.Proofs.YthbkncklliiooaaH
set_option linter.unusedVariables false
set_option linter.unusedSimpArgs false
open Go.RowKit


/-- What was there is as it was, but for some blocks. -/
structure Chg (F : Nat → Prop) (w w' : World) : Prop where
  os : w'.os = w.os
  tape : w'.tape = w.tape
  output : w'.output = w.output
  size : w.heap.size ≤ w'.heap.size
  block : ∀ k, k < w.heap.size → ¬ F k → w'.heap[k]? = w.heap[k]?

theorem Chg.refl (F : Nat → Prop) (w : World) : Chg F w w := ⟨rfl, rfl, rfl, Nat.le_refl _, fun _ _ _ => rfl⟩
theorem Chg.trans {F : Nat → Prop} {a b c : World} (h : Chg F a b) (k : Chg F b c) : Chg F a c :=
  ⟨k.os.trans h.os, k.tape.trans h.tape, k.output.trans h.output, Nat.le_trans h.size k.size, fun i hi hf => (k.block i (Nat.lt_of_lt_of_le hi h.size) hf).trans (h.block i hi hf)⟩
theorem Chg.mono {F G : Nat → Prop} {a b : World} (h : Chg F a b) (hg : ∀ k, F k → G k) : Chg G a b :=
  ⟨h.os, h.tape, h.output, h.size, fun i hi hf => h.block i hi fun hk => hf (hg i hk)⟩
theorem Chg.drew {F : Nat → Prop} {a b : World} (h : Chg F a b) : Chg F a b.drew := ⟨h.os, h.tape, h.output, h.size, h.block⟩
theorem Chg.drewN {F : Nat → Prop} {a b : World} (h : Chg F a b) (n : Nat) : Chg F a (b.drewN n) := ⟨h.os, h.tape, h.output, h.size, h.block⟩
theorem Chg.alloc {F : Nat → Prop} {a b : World} (h : Chg F a b) (o : Obj) : Chg F a (b.alloc o) :=
  h.trans ⟨rfl, rfl, rfl, by simp, fun k hk _ => Below.heap_alloc _ _ _ hk⟩
/-- A store into a block that may be written, or that is new. -/
theorem Chg.setCell {F : Nat → Prop} {a b : World} (h : Chg F a b) {p : Addr} (hp : F p.block ∨ a.heap.size ≤ p.block) (u : Value) : Chg F a (b.setCell p u) :=
  ⟨h.os, h.tape, h.output, by simpa [World.setCell] using h.size, fun k hk hf => by
    have hne : k ≠ p.block := by
      rintro rfl
      rcases hp with hp | hp
      · exact hf hp
      · omega
    rw [Below.heap_setCell _ _ _ _ hne]; exact h.block k hk hf⟩

theorem Gr.chg {F : Nat → Prop} {a b : World} (h : Gr a b) : Chg F a b := ⟨h.os, h.tape, h.output, h.size, fun k hk _ => h.block k hk⟩
/-- What is changed is new, seen from further back. -/
theorem Gr.step {F : Nat → Prop} {a b c : World} (h : Gr a b) (k : Chg F b c) (hf : ∀ i, F i → a.heap.size ≤ i) : Gr a c :=
  ⟨k.os.trans h.os, k.tape.trans h.tape, k.output.trans h.output, Nat.le_trans h.size k.size, fun i hi => (k.block i (Nat.lt_of_lt_of_le hi h.size) fun hk => by have := hf i hk; omega).trans (h.block i hi)⟩

theorem Gr.cells {W w1 : World} (hb : Gr W w1) : (∀ b o, b < W.heap.size → w1.cell? ⟨b, o, none⟩ = W.cell? ⟨b, o, none⟩) ∧ (∀ b o, b < W.heap.size → w1.frozen? ⟨b, o, none⟩ = W.frozen? ⟨b, o, none⟩) :=
  ⟨fun b o h => Below.cell (p := ⟨b, o, none⟩) hb h, fun b o h => Below.frozen (p := ⟨b, o, none⟩) hb h⟩

/-- A cell that there was is as it was. -/
theorem Gr.cell {W w1 : World} (g : Gr W w1) {a : Addr} {v : Value} (h : W.cell? a = some v) : w1.cell? a = some v := by
  by_cases hb : a.block < W.heap.size
  · rw [Below.cell g hb]; exact h
  · simp [World.cell?, Array.getElem?_eq_none (Nat.le_of_not_lt hb)] at h

theorem lt_of_cell {W : World} {a : Addr} {v : Value} (h : W.cell? a = some v) : a.block < W.heap.size := by
  by_cases hb : a.block < W.heap.size
  · exact hb
  · simp [World.cell?, Array.getElem?_eq_none (Nat.le_of_not_lt hb)] at h

theorem Chg.cell {F : Nat → Prop} {W w1 : World} (g : Chg F W w1) {a : Addr} {v : Value} (h : W.cell? a = some v) (hf : ¬ F a.block) : w1.cell? a = some v := by
  by_cases hb : a.block < W.heap.size
  · rw [World.cell?_of_block (g.block a.block hb hf)]; exact h
  · simp [World.cell?, Array.getElem?_eq_none (Nat.le_of_not_lt hb)] at h

/-- A block that is known whole: its cells and its type; it may be written. -/
def Blk (w : World) (b : Nat) (c : Array Value) (t : TypeId) : Prop := w.heap[b]? = some (.cells c t (0, 0))

theorem Blk.lt {w : World} {b : Nat} {c : Array Value} {t : TypeId} (h : Blk w b c t) : b < w.heap.size := lt_of_block h
theorem Blk.cell {w : World} {b : Nat} {c : Array Value} {t : TypeId} (h : Blk w b c t) {i : Nat} {v : Value} (hi : c[i]? = some v) : w.cell? ⟨b, i, none⟩ = some v := by
  unfold Blk at h; simp [World.cell?, h, hi]
theorem Blk.free {w : World} {b : Nat} {c : Array Value} {t : TypeId} (h : Blk w b c t) (i : Nat) : w.frozen? ⟨b, i, none⟩ = false := by
  unfold Blk at h; simp [World.frozen?, h]
theorem Blk.set {w : World} {b : Nat} {c : Array Value} {t : TypeId} (h : Blk w b c t) (i : Nat) (u : Value) : Blk (w.setCell ⟨b, i, none⟩ u) b (c.setIfInBounds i u) t := by
  have hlt := h.lt
  unfold Blk at h ⊢
  have h' : w.heap[b] = .cells c t (0, 0) := by simpa [Array.getElem?_eq_getElem hlt] using h
  show (w.heap.modify b _)[b]? = _
  rw [Array.getElem?_eq_getElem (by simpa using hlt), Array.getElem_modify_self, h']
  rfl
theorem Blk.set_other {w : World} {b : Nat} {c : Array Value} {t : TypeId} (h : Blk w b c t) {a : Addr} (ha : b ≠ a.block) (u : Value) : Blk (w.setCell a u) b c t := by
  unfold Blk at *; rw [Below.heap_setCell _ _ _ _ ha]; exact h
theorem Blk.alloc {w : World} {b : Nat} {c : Array Value} {t : TypeId} (h : Blk w b c t) (o : Obj) : Blk (w.alloc o) b c t := by
  have hlt := h.lt
  unfold Blk at *; rw [Below.heap_alloc _ _ _ hlt]; exact h
theorem Blk.new (w : World) (c : Array Value) (t : TypeId) : Blk (w.alloc (.cells c t)) w.heap.size c t := by
  show (w.heap.push _)[w.heap.size]? = _
  simp
theorem Blk.new' {w : World} {c : Array Value} {t : TypeId} {n : Nat} (hn : n = w.heap.size) : Blk (w.alloc (.cells c t)) n c t := by subst hn; exact Blk.new _ _ _
theorem Blk.drew {w : World} {b : Nat} {c : Array Value} {t : TypeId} (h : Blk w b c t) : Blk w.drew b c t := h
theorem Blk.drewN {w : World} {b : Nat} {c : Array Value} {t : TypeId} (h : Blk w b c t) (n : Nat) : Blk (w.drewN n) b c t := h
theorem Blk.chg {F : Nat → Prop} {w w' : World} {b : Nat} {c : Array Value} {t : TypeId} (h : Blk w b c t) (g : Chg F w w') (hf : ¬ F b) : Blk w' b c t := by
  have hlt := h.lt
  unfold Blk at *; rw [g.block b hlt hf]; exact h
theorem Blk.gr {w w' : World} {b : Nat} {c : Array Value} {t : TypeId} (h : Blk w b c t) (g : Gr w w') : Blk w' b c t := by
  have hlt := h.lt
  unfold Blk at *; rw [Below.block g b hlt]; exact h

/-- A row of words. -/
def wordsRow (l : List Int) : Array Value := (l.map (Value.int .u64)).toArray
theorem wordsRow_size (l : List Int) : (wordsRow l).size = l.length := by simp [wordsRow]
theorem wordsRow_get (l : List Int) (i : Nat) : (wordsRow l)[i]? = (l[i]?).map (Value.int .u64) := by simp [wordsRow]
theorem wordsRow_set (l : List Int) (i : Nat) (x : Int) : (wordsRow l).setIfInBounds i (.int .u64 x) = wordsRow (l.set i x) := by
  unfold wordsRow
  rw [List.map_set]
  simp

/-- A slice of words that is read: it is nil, or its cells hold them. -/
def Words (w : World) (v : Value) (l : List Int) : Prop :=
  (v = .slice none 0 0 ∧ l = []) ∨ ∃ (a : Addr) (cap : Nat), v = .slice (some a) l.length cap ∧ l.length ≤ cap ∧ ∀ i, i < l.length → w.cell? (a.add i) = some (.int .u64 (l.getD i 0))

theorem Words.gr {w w' : World} {v : Value} {l : List Int} (h : Words w v l) (g : Gr w w') : Words w' v l := by
  rcases h with h | ⟨a, cap, e, hc, h⟩
  · exact .inl h
  · exact .inr ⟨a, cap, e, hc, fun i hi => g.cell (h i hi)⟩

/-- A whole copy of a slice of words into a row of the same length. -/
theorem wpList_copy_words {P : Program} {w : World} {ops : Array Oper} {rest : List Oper} {o : Oper} {a : Act} {Q : Exit → Act → World → Prop} (hgd : o.guard = none) (d s : Operand) (dT sT : TypeId)
    (ho : o.op = .call { callee := .builtin .copy, args := #[d, s], argTypes := #[dT, sT] }) (elem : TypeId) (hu : P.underlying dT = some (.slice elem)) (hsz : (P.info? elem).map (·.size) = some 1)
    (g : Nat) (l : List Int) (v : Value) (hv : Words w v l) (hd : a.eval d = .slice (some ⟨g, 0, none⟩) l.length l.length) (hs : a.eval s = v)
    (cur : Array Value) (t : TypeId) (hg : Blk w g cur t) (hcur : cur.size = l.length)
    (h : ∀ w', Hid (Blk w' g (wordsRow l) t) → Chg (· = g) w w' → wpList P ops Q rest (a.put o.dst (goInt l.length)) w') :
    wpList P ops Q (o :: rest) a w := by
  rcases hv with ⟨rfl, rfl⟩ | ⟨ad, cap, rfl, hc, hcell⟩
  · refine wpList_copy_nothing hgd d s dT sT ho elem hu hsz _ _ _ _ _ _ hd hs (by simp) ?_
    have e : cur = wordsRow [] := by
      have : cur = #[] := Array.eq_empty_of_size_eq_zero (by simpa using hcur)
      simp [this, wordsRow]
    exact h w (hid (by rw [← e]; exact hg)) (Chg.refl _ _)
  · refine wpList_copy_own hgd d s dT sT ho elem hu hsz g 0 _ _ ad _ _ hd hs cur t hg (l.map (Value.int .u64)) (by simp) ?_ (by simp [hcur]) ?_ ?_
    · intro j u hu
      rw [List.getElem?_map] at hu
      cases hj : l[j]? with
      | none => simp [hj] at hu
      | some x =>
        have hlt := (List.getElem?_eq_some_iff.1 hj).1
        have h1 := hcell j hlt
        simp only [hj, Option.map_some, Option.some.injEq] at hu
        rw [← hu, h1]
        simp [List.getD, hj]
    · intro u hu
      obtain ⟨x, _, rfl⟩ := List.mem_map.1 hu
      rfl
    · have e : (cur.toList.take 0 ++ (l.map (Value.int .u64) ++ cur.toList.drop (0 + (l.map (Value.int .u64)).length))).toArray = wordsRow l := by
        have : cur.toList.drop (0 + (l.map (Value.int .u64)).length) = [] := by
          apply List.drop_eq_nil_of_le; simp [hcur]
        rw [this]; simp [wordsRow]
      rw [e]
      simp only [List.length_map]
      refine h _ (hid (show _ = _ from setRow_heap w g cur _ t _ hg)) ⟨rfl, rfl, rfl, by simp [World.setRow], fun k _ hk => setRow_other w g k _ hk⟩

/-- A world of which something holds. -/
structure St (Inv : World → Prop) where
  val : World
  ok : Inv val

/-- A region that draws its order, whose operations tell the same in all worlds of which something holds, and whose calls leave such worlds. -/
theorem wp_region_inv {P : Program} {id : Nat} {Q : Exit → Act → World → Prop} {a : Act} {w : World} {l : List Oper} (Inv : World → Prop) (hm : P.follows .mixedOrders = true) (hB : Region.lexB .any l.toArray = true) (h0 : Inv w.drew)
    (h : wpQuiet P l.toArray (fun w' => ∃ s : St Inv, w' = s.val) (fun a' => ∀ w', (∃ s : St Inv, w' = s.val) → Q .normal a' w') l a) : (Code.region id l.toArray true).wp P Q a w :=
  wp_region_quiet (C := fun w' => ∃ s : St Inv, w' = s.val) hm hB ⟨⟨_, h0⟩, rfl⟩ (by simpa using h)

/-- A call in such a region. -/
theorem Calls.st {P : Program} {f : FuncId} {args : Array Value} {Inv : World → Prop} {s : St Inv} {v : Value}
    (h : Calls P f args s.val fun e w' => e = .returned v ∧ Inv w') : Calls P f args s.val fun e w'' => e = .returned v ∧ ∃ s' : St Inv, w'' = s'.val :=
  h.mono fun _ w' ⟨he, hi⟩ => ⟨he, ⟨w', hi⟩, rfl⟩
end Go.Proofs.YthbkncklliiooaaH
