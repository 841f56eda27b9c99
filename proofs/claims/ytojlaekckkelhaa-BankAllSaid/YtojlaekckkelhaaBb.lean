/-
  The walks of the bank's accesses.
-/
import Derived.Test.YtojlaekckkelhaaBa
namespace Go.Proofs.Ytojlaekckkelhaa
set_option linter.unusedVariables false
set_option linter.unusedSimpArgs false
open Go.RowKit

/-- Is there such a cell, and what has it? -/
def Bk.has (B : Bk) (cell : Int) : Bool := decide (0 ≤ cell ∧ cell < (B.cells.length : Int))
def Bk.get (B : Bk) (cell : Int) : Int := B.cells.getD cell.toNat 0

def Bk.load (B : Bk) (cell via : Int) : Bk := if B.has cell = true then B.done 1 cell.toNat via (B.get cell) (B.get cell) true else B.none 1 cell via
def Bk.store (B : Bk) (cell via v : Int) : Bk := if B.has cell = true then B.done 2 cell.toNat via (B.get cell) v true else B.none 2 cell via
def Bk.swap (B : Bk) (cell via old v : Int) : Bk := if B.has cell = true then B.done 3 cell.toNat via (B.get cell) (swapTo old v (B.get cell)) (swapIs old (B.get cell)) else B.none 3 cell via
def Bk.add (B : Bk) (cell via v : Int) : Bk := if B.has cell = true then B.done 4 cell.toNat via (B.get cell) (IntKind.u64.wrap (B.get cell + v)) true else B.none 4 cell via

/-- What an access tells, and leaves. -/
def Told (w : World) (p q : Nat) (B : Bk) (r : Value) (e : Ending) (w' : World) : Prop := e = .returned r ∧ IsBank w' p q B ∧ Chg (Two p q) w w'

/-- A call of access, with a function that is none of its own. -/
theorem access_no (p q : Nat) (B : Bk) (kind cell via : Int) (w : World) (hb : IsBank w p q B) (f : Value) (h : B.has cell = false) :
    Calls Try.prog 51 #[.pointer (some ⟨p, 0, none⟩), .agg #[.int .i64 kind, .int .i64 cell, .int .u64 via, .int .u64 0, .int .u64 0, .bool false], f] w (Accessed w p q (B.none kind cell via)) := by
  have h1 := of_decide_eq_false h
  by_cases h0 : cell < 0
  · exact access_outlow p q B kind cell via w hb f h0
  · exact access_outhigh p q B kind cell via w hb f (by omega) (by omega)

theorem Bk.has_nat {B : Bk} {cell : Int} (h : B.has cell = true) : ∃ n : Nat, cell = n ∧ n < B.cells.length := by
  have h1 := of_decide_eq_true h
  exact ⟨cell.toNat, by omega, by omega⟩

theorem IsBank.at {w : World} {p q : Nat} {B : Bk} (h : IsBank w p q B) {n : Nat} (hn : n < B.cells.length) : w.cell? ⟨q, n, none⟩ = some (.int .u64 (B.get n)) := by
  have := h.word hn
  simpa [Bk.get] using this

/-- What the caller made ahead of the access. -/
theorem Accessed.back {w w1 : World} {p q : Nat} {B : Bk} {e : Ending} {w' : World} (h : Accessed w1 p q B e w') (g : Gr w w1) : e = .returned B.last.val ∧ IsBank w' p q B ∧ Chg (Two p q) w w' :=
  ⟨h.1, h.2.1, g.chg.trans h.2.2⟩

theorem field_old (a b c d e : Int) (f : Bool) (w : World) : (Instr.field 45 (.agg #[.int .i64 a, .int .i64 b, .int .u64 c, .int .u64 d, .int .u64 e, .bool f]) 3).run Try.prog w = .ok (.int .u64 d) w := by kernel_rfl
theorem field_is (a b c d e : Int) (f : Bool) (w : World) : (Instr.field 45 (.agg #[.int .i64 a, .int .i64 b, .int .u64 c, .int .u64 d, .int .u64 e, .bool f]) 5).run Try.prog w = .ok (.bool f) w := by kernel_rfl

set_option maxHeartbeats 1000000 in
theorem load_any (p q : Nat) (B : Bk) (cell via : Int) (w : World) (hb : IsBank w p q B) :
    Calls Try.prog 43 #[.pointer (some ⟨p, 0, none⟩), .int .i64 cell, .int .u64 via] w (Told w p q (B.load cell via) (.int .u64 (B.load cell via).last.old)) := by
  have hmf : ∀ (fn : Fn) (first cap : Array Value) (w : World), (Instr.makeFunc fn first cap).run Try.prog w = .ok (.func fn first cap) w := fun _ _ _ _ => rfl
  have hf3 := field_old
  have hf5 := field_is
  by_cases h : B.has cell = true
  · obtain ⟨n, rfl, hn⟩ := Bk.has_nat h
    have e0 : B.load n via = B.done 1 n via (B.get n) (B.get n) true := if_pos h
    rw [e0]
    clear h e0
    go_enter Try.func43, Try.ntmps43
    go_wp2_with fail
    refine (access_load p q B 1 via (B.get n) n _ (hb.gr (Gr.refl _)) hn (hb.at hn)).mono ?_
    intro e w1 hacc
    obtain ⟨rfl, h1, h2⟩ := hacc.back (Gr.refl w)
    unfold Acc.val
    go_wp2_with fail
    go_ret
    exact ⟨rfl, h1, h2⟩
  · have h' : B.has cell = false := by simpa using h
    have e0 : B.load cell via = B.none 1 cell via := if_neg h
    rw [e0]
    clear h e0
    go_enter Try.func43, Try.ntmps43
    go_wp2_with fail
    refine (access_no p q B 1 cell via _ (hb.gr (Gr.refl w)) _ h').mono ?_
    intro e w1 hacc
    obtain ⟨rfl, h1, h2⟩ := hacc.back (Gr.refl w)
    unfold Acc.val
    go_wp2_with fail
    go_ret
    exact ⟨rfl, h1, h2⟩

set_option maxHeartbeats 1000000 in
theorem store_any (p q : Nat) (B : Bk) (cell via v : Int) (w : World) (hb : IsBank w p q B) :
    Calls Try.prog 46 #[.pointer (some ⟨p, 0, none⟩), .int .i64 cell, .int .u64 via, .int .u64 v] w (Told w p q (B.store cell via v) (.tuple #[])) := by
  have hmf : ∀ (fn : Fn) (first cap : Array Value) (w : World), (Instr.makeFunc fn first cap).run Try.prog w = .ok (.func fn first cap) w := fun _ _ _ _ => rfl
  have hf3 := field_old
  have hf5 := field_is
  by_cases h : B.has cell = true
  · obtain ⟨n, rfl, hn⟩ := Bk.has_nat h
    have e0 : B.store n via v = B.done 2 n via (B.get n) v true := if_pos h
    rw [e0]
    clear h e0
    go_enter Try.func46, Try.ntmps46
    go_wp2_with fail
    refine (access_store p q B 2 via (B.get n) n v w.heap.size _ (hb.gr ((Gr.refl w).alloc _)) hn ((hb.gr ((Gr.refl w).alloc _)).at hn) ((Blk.new _ _ _).cell rfl)).mono ?_
    intro e w1 hacc
    obtain ⟨rfl, h1, h2⟩ := hacc.back ((Gr.refl w).alloc _)
    unfold Acc.val
    go_wp2_with fail
    go_end0
    exact ⟨rfl, h1, h2⟩
  · have h' : B.has cell = false := by simpa using h
    have e0 : B.store cell via v = B.none 2 cell via := if_neg h
    rw [e0]
    clear h e0
    go_enter Try.func46, Try.ntmps46
    go_wp2_with fail
    refine (access_no p q B 2 cell via _ (hb.gr ((Gr.refl w).alloc _)) _ h').mono ?_
    intro e w1 hacc
    obtain ⟨rfl, h1, h2⟩ := hacc.back ((Gr.refl w).alloc _)
    unfold Acc.val
    go_wp2_with fail
    go_end0
    exact ⟨rfl, h1, h2⟩

set_option maxHeartbeats 1000000 in
theorem swap_any (p q : Nat) (B : Bk) (cell via old v : Int) (w : World) (hb : IsBank w p q B) :
    Calls Try.prog 41 #[.pointer (some ⟨p, 0, none⟩), .int .i64 cell, .int .u64 via, .int .u64 old, .int .u64 v] w (Told w p q (B.swap cell via old v) (.bool (B.swap cell via old v).last.done)) := by
  have hmf : ∀ (fn : Fn) (first cap : Array Value) (w : World), (Instr.makeFunc fn first cap).run Try.prog w = .ok (.func fn first cap) w := fun _ _ _ _ => rfl
  have hf3 := field_old
  have hf5 := field_is
  by_cases h : B.has cell = true
  · obtain ⟨n, rfl, hn⟩ := Bk.has_nat h
    have e0 : B.swap n via old v = B.done 3 n via (B.get n) (swapTo old v (B.get n)) (swapIs old (B.get n)) := if_pos h
    rw [e0]
    clear h e0
    go_enter Try.func41, Try.ntmps41
    go_wp2_with fail
    refine (access_swap p q B 3 via (B.get n) n old v w.heap.size (w.heap.size + 1) _ (hb.gr (((Gr.refl w).alloc _).alloc _)) hn ((hb.gr (((Gr.refl w).alloc _).alloc _)).at hn) (((Blk.new _ _ _).alloc _).cell rfl) ((Blk.new' (by simp)).cell rfl)).mono ?_
    intro e w1 hacc
    obtain ⟨rfl, h1, h2⟩ := hacc.back (((Gr.refl w).alloc _).alloc _)
    unfold Acc.val
    go_wp2_with fail
    go_ret
    exact ⟨rfl, h1, h2⟩
  · have h' : B.has cell = false := by simpa using h
    have e0 : B.swap cell via old v = B.none 3 cell via := if_neg h
    rw [e0]
    clear h e0
    go_enter Try.func41, Try.ntmps41
    go_wp2_with fail
    refine (access_no p q B 3 cell via _ (hb.gr (((Gr.refl w).alloc _).alloc _)) _ h').mono ?_
    intro e w1 hacc
    obtain ⟨rfl, h1, h2⟩ := hacc.back (((Gr.refl w).alloc _).alloc _)
    unfold Acc.val
    go_wp2_with fail
    go_ret
    exact ⟨rfl, h1, h2⟩

set_option maxHeartbeats 1000000 in
theorem add_any (p q : Nat) (B : Bk) (cell via v : Int) (w : World) (hb : IsBank w p q B) :
    Calls Try.prog 42 #[.pointer (some ⟨p, 0, none⟩), .int .i64 cell, .int .u64 via, .int .u64 v] w (Told w p q (B.add cell via v) (.int .u64 (B.add cell via v).last.old)) := by
  have hmf : ∀ (fn : Fn) (first cap : Array Value) (w : World), (Instr.makeFunc fn first cap).run Try.prog w = .ok (.func fn first cap) w := fun _ _ _ _ => rfl
  have hf3 := field_old
  have hf5 := field_is
  by_cases h : B.has cell = true
  · obtain ⟨n, rfl, hn⟩ := Bk.has_nat h
    have e0 : B.add n via v = B.done 4 n via (B.get n) (IntKind.u64.wrap (B.get n + v)) true := if_pos h
    rw [e0]
    clear h e0
    go_enter Try.func42, Try.ntmps42
    go_wp2_with fail
    refine (access_add p q B 4 via (B.get n) n v w.heap.size _ (hb.gr ((Gr.refl w).alloc _)) hn ((hb.gr ((Gr.refl w).alloc _)).at hn) ((Blk.new _ _ _).cell rfl)).mono ?_
    intro e w1 hacc
    obtain ⟨rfl, h1, h2⟩ := hacc.back ((Gr.refl w).alloc _)
    unfold Acc.val
    go_wp2_with fail
    go_ret
    exact ⟨rfl, h1, h2⟩
  · have h' : B.has cell = false := by simpa using h
    have e0 : B.add cell via v = B.none 4 cell via := if_neg h
    rw [e0]
    clear h e0
    go_enter Try.func42, Try.ntmps42
    go_wp2_with fail
    refine (access_no p q B 4 cell via _ (hb.gr ((Gr.refl w).alloc _)) _ h').mono ?_
    intro e w1 hacc
    obtain ⟨rfl, h1, h2⟩ := hacc.back ((Gr.refl w).alloc _)
    unfold Acc.val
    go_wp2_with fail
    go_ret
    exact ⟨rfl, h1, h2⟩

end Go.Proofs.Ytojlaekckkelhaa
