/-
  The walk of plan.Right.
-/
import Derived.Test.YthbkncklliiooaaProg
import Derived.Test.YthbkncklliiooaaHeap
import Derived.WalkSpells
import Derived.WalkLawsBesides
import Derived.Outline
import Derived.Deep.OwnRows
import Derived.Laws.CopyOwn
import Derived.Test.YthbkncklliiooaaReg
import Derived.Laws.StructEq
import Derived.BigQuiet
namespace Go.Proofs.YthbkncklliiooaaH
set_option linter.unusedVariables false
set_option linter.unusedSimpArgs false
open Go.RowKit

/-- A configuration. -/
structure Cf where
  th : Int
  sl : Int
  cp : Int
  he : Int
  ke : Int
  ev : Int
  la : Int
deriving DecidableEq

def Cf.val (c : Cf) : Value := .agg #[.int .i64 c.th, .int .i64 c.sl, .int .i64 c.cp, .int .i64 c.he, .int .i64 c.ke, .int .i64 c.ev, .int .i64 c.la]

/-- A number brought into bounds. -/
def clamp (n a b : Int) : Int := max a (min n b)

theorem to_any (n a b : Int) (w : World) : Calls Try.prog 51 #[.int .i64 n, .int .i64 a, .int .i64 b] w fun e w' => e = .returned (.int .i64 (clamp n a b)) ∧ w = w' := by
  go_enter Try.func51, Try.ntmps51
  go_wp2
  all_goals
    go_ret
    refine ⟨ret_int ?_, rfl⟩
    unfold clamp
    omega

theorem to_st (n a b : Int) {w : World} {s : St (· = w)} : Calls Try.prog 51 #[.int .i64 n, .int .i64 a, .int .i64 b] s.val fun e w' => e = .returned (.int .i64 (clamp n a b)) ∧ ∃ s' : St (· = w), w' = s'.val :=
  (to_any n a b _).mono fun _ _ ⟨he, hw⟩ => ⟨he, s, hw.symm⟩

/-- The configuration that a configuration is brought to. -/
def Cf.may (c : Cf) : Cf := ⟨clamp c.th 1 8, clamp c.sl 1 8, clamp c.cp 1 64, clamp c.he 1 6, clamp c.ke 1 64, clamp c.ev 1 64, clamp c.la 0 1073741823⟩

set_option maxRecDepth 100000 in
set_option maxHeartbeats 1000000 in
theorem right_walk (c : Cf) (w : World) : Calls Try.prog 16 #[c.val] w fun e w' => e = .returned (.bool (decide (c = c.may))) ∧ Gr w w' := by
  unfold Cf.val
  go_enter Try.func16, Try.ntmps16
  go_wp2
  refine wp_region_anyC (n := 24) (Gr (w.alloc (.cells #[.int .i64 c.th, .int .i64 c.sl, .int .i64 c.cp, .int .i64 c.he, .int .i64 c.ke, .int .i64 c.ev, .int .i64 c.la] 23))) (by kernel_rfl) rfl ?_
  refine anyC_quiet (a1 := ?a1) (by kernel_rfl) 2 [0, 1, 2, 3, 4, 5, 6, 7, 8, 9, 10, 11, 12, 13, 14, 15, 16, 17, 18, 19, 20, 21] _ _ _ (by kernel_rfl) (by kernel_rfl) (Gr.refl _).drew ?_ ?_
  rotate_left
  · intro w' g'
    have hne : Nonempty (St (· = w')) := ⟨⟨w', rfl⟩⟩
    have X : Blk w' w.heap.size #[.int .i64 c.th, .int .i64 c.sl, .int .i64 c.cp, .int .i64 c.he, .int .i64 c.ke, .int .i64 c.ev, .int .i64 c.la] 23 := (Blk.new _ _ _).gr g'
    have x0 : ∀ s : St (· = w'), s.val.cell? ⟨w.heap.size, 0, none⟩ = some (.int .i64 c.th) := fun s => by rw [s.ok]; exact X.cell rfl
    have x1 : ∀ s : St (· = w'), s.val.cell? ⟨w.heap.size, 1, none⟩ = some (.int .i64 c.sl) := fun s => by rw [s.ok]; exact X.cell rfl
    have x2 : ∀ s : St (· = w'), s.val.cell? ⟨w.heap.size, 2, none⟩ = some (.int .i64 c.cp) := fun s => by rw [s.ok]; exact X.cell rfl
    have x3 : ∀ s : St (· = w'), s.val.cell? ⟨w.heap.size, 3, none⟩ = some (.int .i64 c.he) := fun s => by rw [s.ok]; exact X.cell rfl
    have x4 : ∀ s : St (· = w'), s.val.cell? ⟨w.heap.size, 4, none⟩ = some (.int .i64 c.ke) := fun s => by rw [s.ok]; exact X.cell rfl
    have x5 : ∀ s : St (· = w'), s.val.cell? ⟨w.heap.size, 5, none⟩ = some (.int .i64 c.ev) := fun s => by rw [s.ok]; exact X.cell rfl
    have x6 : ∀ s : St (· = w'), s.val.cell? ⟨w.heap.size, 6, none⟩ = some (.int .i64 c.la) := fun s => by rw [s.ok]; exact X.cell rfl
    clear X g'
    conv => arg 5; simp only [picked, List.filterMap_cons, List.filterMap_nil, List.getElem?_toArray, List.getElem?_cons_zero, List.getElem?_cons_succ]
    show wpQuiet _ _ _ _ [_, _, _, _, _, _, _, _, _, _, _, _, _, _, _, _, _, _, _, _, _, _] _
    repeat (go_big_quiet_step ((go_at_call 51; exact to_st _ _ _)))
    refine wpQuiet_nil ?_
    rfl
  refine anyC_alone 22 (Gr.refl _).drew (by kernel_rfl) (by kernel_rfl) ?_
  conv => arg 4; simp only [picked, List.filterMap_cons, List.filterMap_nil, List.getElem?_toArray, List.getElem?_cons_zero, List.getElem?_cons_succ]
  show wpList _ _ _ [_] _ _
  go_wp2
  refine ⟨((Gr.refl _).alloc _).drew, ?_⟩
  refine anyC_alone 23 ((Gr.refl _).alloc _).drew (by kernel_rfl) (by kernel_rfl) ?_
  conv => arg 4; simp only [picked, List.filterMap_cons, List.filterMap_nil, List.getElem?_toArray, List.getElem?_cons_zero, List.getElem?_cons_succ]
  show wpList _ _ _ [_] _ _
  go_wp2
  refine ⟨?_, by kernel_rfl, ?_⟩
  · exact ((Gr.refl _).alloc _).drew
  have hmay : ∃ m0 m1 m2 m3 m4 m5 m6 : Int, clamp c.th 1 8 = m0 ∧ clamp c.sl 1 8 = m1 ∧ clamp c.cp 1 64 = m2 ∧ clamp c.he 1 6 = m3 ∧ clamp c.ke 1 64 = m4 ∧ clamp c.ev 1 64 = m5 ∧ clamp c.la 0 1073741823 = m6 ∧ c.may = ⟨m0, m1, m2, m3, m4, m5, m6⟩ := ⟨_, _, _, _, _, _, _, rfl, rfl, rfl, rfl, rfl, rfl, rfl, rfl⟩
  obtain ⟨m0, m1, m2, m3, m4, m5, m6, e0, e1, e2, e3, e4, e5, e6, em⟩ := hmay
  rw [e0, e1, e2, e3, e4, e5, e6]
  have HM := hid em
  clear e0 e1 e2 e3 e4 e5 e6 em
  go_wp2_with fail
  all_goals
    go_ret
    refine ⟨ret_bool ?_, (((Gr.refl w).alloc _).alloc _).drew⟩
    rw [HM.out]
    obtain ⟨th, sl, cp, he, ke, ev, la⟩ := c
    simp_all

/-- The worlds that there are. -/
def Cf.Ok (c : Cf) : Prop := 1 ≤ c.th ∧ c.th ≤ 8 ∧ 1 ≤ c.sl ∧ c.sl ≤ 8 ∧ 1 ≤ c.cp ∧ c.cp ≤ 64 ∧ 1 ≤ c.he ∧ c.he ≤ 6 ∧ 1 ≤ c.ke ∧ c.ke ≤ 64 ∧ 1 ≤ c.ev ∧ c.ev ≤ 64 ∧ 0 ≤ c.la ∧ c.la ≤ 1073741823
instance (c : Cf) : Decidable c.Ok := by unfold Cf.Ok; infer_instance

theorem may_ok (c : Cf) : c = c.may ↔ c.Ok := by
  obtain ⟨th, sl, cp, he, ke, ev, la⟩ := c
  simp only [Cf.may, Cf.Ok, clamp, Cf.mk.injEq]
  omega

theorem right_given (c : Cf) (w : World) : Calls Try.prog 16 #[c.val] w fun e w' => e = .returned (.bool (decide c.Ok)) ∧ Gr w w' :=
  (right_walk c w).mono fun e w' ⟨he, hw⟩ => ⟨by rw [he, decide_eq_decide.2 (may_ok c)], hw⟩
end Go.Proofs.YthbkncklliiooaaH
