/-
  Arguments that are arrays and structs of numbers and bools of one cell each, opened. Over any program.
-/
import Derived.ProofKit
import Derived.OpenShut
import Derived.Lib.SmallJoins
import Derived.SizedLaws
import Derived.Test.YthbkncklliiooaaHeap
import Derived.Test.YthbkncklliiooaaProg
import Derived.Deep.Grids
namespace Go.Proofs.YthbkncklliiooaaH
set_option linter.unusedVariables false
set_option linter.unusedSimpArgs false
open Go.ChangeShapes Go.WideShapes Go.ChangeAt Go.RowKit Go.Joins Go.Deep

section
variable {H : Type} {enc : TypeId × Value → H} {P : Program} {w : World} {base b0 : Nat} {spare : Nat → Bool} {held : Bool} {r : Reach} {t : TypeId} {v : Value} {d : DataW H} {p : List MemPlace}

theorem okWide_array {n : Nat} {e : TypeId} (ht : P.underlying t = some (.array n e)) (h : Value.okWide P w r b0 t v) : ∃ cs, v = .agg cs ∧ cs.size = P.cellsOf t := by
  simp only [Value.okWide, ht] at h
  obtain ⟨cs, h1, h2, _⟩ := h
  exact ⟨cs, h1, h2⟩

/-- An array of so many elements of one cell each. -/
theorem open_array {n : Nat} {e : TypeId} (ht : P.underlying t = some (.array n e)) (hC : P.cellsOf t = n) (he : P.cellsOf e = 1) (hv : Value.okWide P w r b0 t v) (h : DataW.Trod enc P w base spare held t v d p) :
    ∃ cs : List Value, v = .agg cs.toArray ∧ cs.length = n ∧ ∀ (i : Nat) (c : Value), cs[i]? = some c → ∃ (m : Nat) (y : DataW H × List MemPlace), DataW.trod enc P w base spare held m e [c] = some y := by
  obtain ⟨cs, rfl, hsz⟩ := okWide_array ht hv
  obtain ⟨fuel, hf⟩ := h
  obtain ⟨xs, m, _, _, _, hl, hg⟩ := DataW.trod_array ht hf
  obtain ⟨cs⟩ := cs
  refine ⟨cs, rfl, by simpa [hC] using hsz, fun i c hc => ?_⟩
  have hi : i < cs.length := (List.getElem?_eq_some_iff.1 hc).1
  have hin : i < n := by rw [← hC, ← hsz]; simpa using hi
  have h1 := hg i hin
  have e1 : ((Value.agg ⟨cs⟩).cells.toList.drop (i * P.cellsOf e)).take (P.cellsOf e) = [c] := by
    rw [he, Nat.mul_one]
    show (cs.drop i).take 1 = [c]
    rw [List.drop_eq_getElem_cons hi]
    have e2 : cs[i] = c := (List.getElem?_eq_some_iff.1 hc).2
    rw [e2]; rfl
  rw [e1] at h1
  exact ⟨m, xs[i]'(by omega), by rw [h1, List.getElem?_eq_getElem (by omega)]⟩

/-- A struct of fields of one cell each. -/
theorem open_struct {fs : Array Field} (ht : P.underlying t = some (.struct fs)) (hone : oneCellFields P fs = true) (hC : P.cellsOf t = fs.size) (hv : Value.okWide P w r b0 t v) (h : DataW.Trod enc P w base spare held t v d p) :
    ∃ cs : List Value, v = .agg cs.toArray ∧ cs.length = fs.size ∧ ∀ (i : Nat) (f : Field) (c : Value), fs[i]? = some f → cs[i]? = some c → ∃ (m : Nat) (y : DataW H × List MemPlace), DataW.trod enc P w base spare held m f.type [c] = some y := by
  obtain ⟨cs, rfl, hsz⟩ := okWide_struct ht hv
  obtain ⟨fuel, hf⟩ := h
  obtain ⟨xs, m, _, _, _, hl, hg⟩ := DataW.trod_struct ht hf
  obtain ⟨cs⟩ := cs
  refine ⟨cs, rfl, by simpa [hC] using hsz, fun i f c hfi hc => ?_⟩
  have hi : i < cs.length := (List.getElem?_eq_some_iff.1 hc).1
  have hin : i < fs.size := (Array.getElem?_eq_some_iff.1 hfi).1
  obtain ⟨ho, hk⟩ := hone_of hone i f hfi
  have h1 := hg i f hfi
  have e1 : ((Value.agg ⟨cs⟩).cells.toList.drop f.offset).take (P.cellsOf f.type) = [c] := by
    rw [ho, hk]
    show (cs.drop i).take 1 = [c]
    rw [List.drop_eq_getElem_cons hi]
    have e2 : cs[i] = c := (List.getElem?_eq_some_iff.1 hc).2
    rw [e2]; rfl
  rw [e1] at h1
  exact ⟨m, xs[i]'(by omega), by rw [h1, List.getElem?_eq_getElem (by omega)]⟩

theorem leaf_int {k : IntKind} {e : TypeId} {c : Value} (he : P.underlying e = some (.int k)) (h : ∃ (m : Nat) (y : DataW H × List MemPlace), DataW.trod enc P w base spare held m e [c] = some y) :
    ∃ n : Int, c = .int k n ∧ (Lit.int k n).wf = true := by
  obtain ⟨m, y, h⟩ := h
  obtain ⟨n, e1, _, hw⟩ := DataW.trod_int he h
  exact ⟨n, by simpa using e1, hw⟩

theorem leaf_bool {e : TypeId} {c : Value} (he : P.underlying e = some .bool) (h : ∃ (m : Nat) (y : DataW H × List MemPlace), DataW.trod enc P w base spare held m e [c] = some y) :
    ∃ b : Bool, c = .bool b := by
  obtain ⟨m, y, h⟩ := h
  obtain ⟨b, e1, _⟩ := DataW.trod_bool he h
  exact ⟨b, by simpa using e1⟩

/-- Two numbers. -/
theorem open_two {e : TypeId} {k : IntKind} (ht : P.underlying t = some (.array 2 e)) (hC : P.cellsOf t = 2) (he : P.cellsOf e = 1) (hk : P.underlying e = some (.int k)) (hv : Value.okWide P w r b0 t v) (h : DataW.Trod enc P w base spare held t v d p) :
    ∃ x y : Int, v = .agg #[.int k x, .int k y] ∧ (Lit.int k x).wf = true ∧ (Lit.int k y).wf = true := by
  obtain ⟨cs, rfl, hl, hg⟩ := open_array ht hC he hv h
  match cs, hl with
  | [c0, c1], _ =>
    obtain ⟨x, rfl, hx⟩ := leaf_int hk (hg 0 c0 rfl)
    obtain ⟨y, rfl, hy⟩ := leaf_int hk (hg 1 c1 rfl)
    exact ⟨x, y, rfl, hx, hy⟩

/-- Two bools. -/
theorem open_two_bools {e : TypeId} (ht : P.underlying t = some (.array 2 e)) (hC : P.cellsOf t = 2) (he : P.cellsOf e = 1) (hk : P.underlying e = some .bool) (hv : Value.okWide P w r b0 t v) (h : DataW.Trod enc P w base spare held t v d p) :
    ∃ x y : Bool, v = .agg #[.bool x, .bool y] := by
  obtain ⟨cs, rfl, hl, hg⟩ := open_array ht hC he hv h
  match cs, hl with
  | [c0, c1], _ =>
    obtain ⟨x, rfl⟩ := leaf_bool hk (hg 0 c0 rfl)
    obtain ⟨y, rfl⟩ := leaf_bool hk (hg 1 c1 rfl)
    exact ⟨x, y, rfl⟩

/-- Three numbers. -/
theorem open_three {e : TypeId} {k : IntKind} (ht : P.underlying t = some (.array 3 e)) (hC : P.cellsOf t = 3) (he : P.cellsOf e = 1) (hk : P.underlying e = some (.int k)) (hv : Value.okWide P w r b0 t v) (h : DataW.Trod enc P w base spare held t v d p) :
    ∃ x y z : Int, v = .agg #[.int k x, .int k y, .int k z] ∧ (Lit.int k x).wf = true ∧ (Lit.int k y).wf = true ∧ (Lit.int k z).wf = true := by
  obtain ⟨cs, rfl, hl, hg⟩ := open_array ht hC he hv h
  match cs, hl with
  | [c0, c1, c2], _ =>
    obtain ⟨x, rfl, hx⟩ := leaf_int hk (hg 0 c0 rfl)
    obtain ⟨y, rfl, hy⟩ := leaf_int hk (hg 1 c1 rfl)
    obtain ⟨z, rfl, hz⟩ := leaf_int hk (hg 2 c2 rfl)
    exact ⟨x, y, z, rfl, hx, hy, hz⟩

/-- Seven numbers in a struct. -/
theorem open_seven {fs : Array Field} {e : TypeId} {k : IntKind} (ht : P.underlying t = some (.struct fs)) (hone : oneCellFields P fs = true) (hC : P.cellsOf t = 7) (hs : fs.size = 7) (hf : ∀ f ∈ fs, f.type = e) (hk : P.underlying e = some (.int k)) (hv : Value.okWide P w r b0 t v) (h : DataW.Trod enc P w base spare held t v d p) :
    ∃ x1 x2 x3 x4 x5 x6 x7 : Int, v = .agg #[.int k x1, .int k x2, .int k x3, .int k x4, .int k x5, .int k x6, .int k x7] := by
  obtain ⟨cs, rfl, hl, hg⟩ := open_struct ht hone (by rw [hC, hs]) hv h
  rw [hs] at hl
  have hg' : ∀ (i : Nat) (c : Value), i < 7 → cs[i]? = some c → ∃ n : Int, c = .int k n := by
    intro i c hi hc
    obtain ⟨n, e1, _⟩ := leaf_int hk (by
      have := hg i fs[i] c (Array.getElem?_eq_getElem (by omega)) hc
      rw [hf _ (Array.getElem_mem _)] at this
      exact this)
    exact ⟨n, e1⟩
  match cs, hl with
  | [c0, c1, c2, c3, c4, c5, c6], _ =>
    obtain ⟨x1, rfl⟩ := hg' 0 c0 (by omega) rfl
    obtain ⟨x2, rfl⟩ := hg' 1 c1 (by omega) rfl
    obtain ⟨x3, rfl⟩ := hg' 2 c2 (by omega) rfl
    obtain ⟨x4, rfl⟩ := hg' 3 c3 (by omega) rfl
    obtain ⟨x5, rfl⟩ := hg' 4 c4 (by omega) rfl
    obtain ⟨x6, rfl⟩ := hg' 5 c5 (by omega) rfl
    obtain ⟨x7, rfl⟩ := hg' 6 c6 (by omega) rfl
    exact ⟨x1, x2, x3, x4, x5, x6, x7, rfl⟩
end
end Go.Proofs.YthbkncklliiooaaH

namespace Go.Proofs.YthbkncklliiooaaH
set_option linter.unusedVariables false
set_option linter.unusedSimpArgs false
open Go.ChangeShapes Go.WideShapes Go.ChangeAt Go.RowKit

section
variable {H : Type} {enc : TypeId × Value → H} {P : Program} {w : World} {base b0 : Nat} {held : Bool} {r : Reach} {t e : TypeId} {v : Value} {d : DataW H} {p : List MemPlace}

theorem open_words (ht : P.underlying t = some (.slice e)) (he : P.underlying e = some (.int .u64)) (hce : P.cellsOf e = 1) (hv : Value.okWide P w r b0 t v) (h : DataW.Trod enc P w base (fun _ => true) held t v d p) :
    ∃ l : List Int, Words w v l ∧ (∀ x ∈ l, U64 x) ∧ (l = [] ∨ ∃ es ss : List (DataW H), d = .slice es ss ∧ es.length = l.length) := by
  obtain ⟨a0, len, cap, rfl⟩ := okWide_slice ht hv
  obtain ⟨fuel, hf⟩ := h
  rcases open_ints ht he hce hf with ⟨hcs, hx⟩ | ⟨a, len', cap', zs, hcs, _, hl, hm, hz, hx, hcell, hwz⟩
  · simp [Value.cells] at hcs
    obtain ⟨rfl, rfl, rfl⟩ := hcs
    exact ⟨[], .inl ⟨rfl, rfl⟩, by simp, .inl rfl⟩
  · simp [Value.cells] at hcs
    obtain ⟨rfl, rfl, rfl⟩ := hcs
    simp only [if_true] at hz
    simp only [Prod.mk.injEq] at hx
    have hlen : (zs.take len).length = len := by simp [List.length_take]; omega
    refine ⟨zs.take len, .inr ⟨a, cap, by rw [hlen], by omega, fun i hi => ?_⟩, fun x hx => u64_of (hwz x (List.mem_of_mem_take hx)), .inr ⟨_, _, hx.1, by simp [lits]⟩⟩
    rw [hlen] at hi
    rw [hcell i (by omega)]
    simp [List.getD, List.getElem?_take, hi]
end
end Go.Proofs.YthbkncklliiooaaH

namespace Go.Proofs.YthbkncklliiooaaH
set_option linter.unusedVariables false
set_option linter.unusedSimpArgs false
open Go.ChangeShapes Go.WideShapes Go.ChangeAt Go.RowKit Go.Joins Go.Deep

/-- A slice of bools that is read. -/
def Bools (w : World) (s : Value) (L : List Bool) : Prop := ∃ (A : Option Addr) (cap : Nat), s = .slice A L.length cap ∧ L.length ≤ cap ∧ ∀ i, i < L.length → ∃ a, A = some a ∧ w.cell? (a.add i) = some (.bool (L.getD i false))
def Turns (w : World) (v : Value) (T : Int × List Bool) : Prop := ∃ s, v = .agg #[.int .u64 T.1, s] ∧ U64 T.1 ∧ Bools w s T.2

set_option maxRecDepth 100000 in
theorem open_turns {H : Type} {enc : TypeId × Value → H} {w : World} {base b0 : Nat} {held : Bool} {r : Reach} {v : Value} {d : DataW H} {p : List MemPlace}
    (hv : Value.okWide Try.prog w r b0 43 v) (h : DataW.Trod enc Try.prog w base (fun _ => true) held 43 v d p) : ∃ T : Int × List Bool, Turns w v T := by
  obtain ⟨cs, rfl, hl, hg⟩ := open_struct Try.underlying43 (by kernel_rfl) (by kernel_rfl) hv h
  have hl2 : cs.length = 2 := hl
  match cs, hl2 with
  | [c0, c1], _ =>
    obtain ⟨x, rfl, hx⟩ := leaf_int Try.underlying40 (hg 0 _ c0 rfl rfl)
    obtain ⟨m, y, hm⟩ := hg 1 _ c1 rfl rfl
    rcases open_bools Try.underlying41 Try.underlying4 (by kernel_rfl) hm with ⟨hcs, _⟩ | ⟨a, len, cap, B, hcs, _, hlc, _, _, hB⟩
    · simp only [List.cons.injEq, and_true] at hcs
      exact ⟨(x, []), c1, rfl, u64_of hx, none, 0, hcs, Nat.le_refl _, fun i hi => absurd hi (by simp)⟩
    · simp only [List.cons.injEq, and_true] at hcs
      refine ⟨(x, (List.range len).map B), c1, rfl, u64_of hx, some a, cap, by simpa using hcs, by simpa using hlc, fun i hi => ⟨a, rfl, ?_⟩⟩
      have hi' : i < len := by simpa using hi
      rw [hB i (by omega)]
      simp [List.getD, hi']
end Go.Proofs.YthbkncklliiooaaH
