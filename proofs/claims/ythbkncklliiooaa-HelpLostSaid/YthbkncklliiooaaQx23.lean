-- PRINTED by print.py (a twelfth state) out of the translation. Not trusted: Lean checks it.
import Derived.Test.YthbkncklliiooaaQx0
import Derived.Test.YthbkncklliiooaaQx11
import Derived.Test.YthbkncklliiooaaQx19
import Derived.Test.YthbkncklliiooaaQx20
import Derived.Test.YthbkncklliiooaaQx22
namespace Go.Proofs.Ythbkncklliiooaa.Q
open Go.RowKit Go.Proofs.YthbkncklliiooaaW.PrintWords Go.Proofs.YthbkncklliiooaaW.PrintLast Go.Proofs.YthbkncklliiooaaW.PrintMore
attribute [local go_sem] max2_int min2_int max_two min_two max_three min_three max_four min_four   -- for this text's walks alone
set_option linter.unusedVariables false
set_option linter.unusedSimpArgs false
/-! ### stepstoneref11_Lay: function 38 -/
mutual
def stepstoneref11_Lay.l0 : Nat → List (S69) → List Int → Int → Int → Int → Int → Int → Int → Int → Int → Option (List Int)
 | 0, _, _, _, _, _, _, _, _, _, _ => none
 | k + 1, x1, x6, x7, x293000, x293001, x293002, x293003, x293004, x293005, x293006 => if x7 < x293003 then ((stepstoneref04_Cell.f x293000 x293001 x293002 x293003 x293004 x293005 x293006 0 (wrap64 (6 + x7))).bind fun t317 => ((stepstoneref11_behind.f k x1 (-1) x7).bind fun t318 => (if 0 ≤ t317 then (if t317 < (x6.length : Int) then (stepstoneref11_Lay.l0 k x1 (x6.set (t317 : Int).toNat t318) (wrap64 (x7 + 1)) x293000 x293001 x293002 x293003 x293004 x293005 x293006) else (none)) else (none)))) else (stepstoneref11_Lay.l1 k x1 x6 0 x293000 x293001 x293002 x293003 x293004 x293005 x293006)
def stepstoneref11_Lay.l1 : Nat → List (S69) → List Int → Int → Int → Int → Int → Int → Int → Int → Int → Option (List Int)
 | 0, _, _, _, _, _, _, _, _, _, _ => none
 | k + 1, x1, x6, x8, x293000, x293001, x293002, x293003, x293004, x293005, x293006 => if x8 < (x1.length : Int) then (if 0 ≤ x8 then ((stepstoneref04_Cell.f x293000 x293001 x293002 x293003 x293004 x293005 x293006 (wrap64 (x8 + 1)) 0).bind fun t322 => ((stepstoneref02_Taken.f 0).bind fun t323 => (if 0 ≤ t322 then (if t322 < (x6.length : Int) then ((stepstoneref04_Cell.f x293000 x293001 x293002 x293003 x293004 x293005 x293006 (wrap64 (x8 + 1)) 1).bind fun t325 => (if 0 ≤ t325 then (if t325 < (x6.length : Int) then ((stepstoneref04_Cell.f x293000 x293001 x293002 x293003 x293004 x293005 x293006 (wrap64 (x8 + 1)) 2).bind fun t327 => (if 0 ≤ t327 then (if t327 < (x6.length : Int) then ((some (((x6.set (t322 : Int).toNat t323).set (t325 : Int).toNat ((rd_T69 x1 x8).f0)).set (t327 : Int).toNat (IntKind.u64.wrap (2 * ((rd_T69 x1 x8).f1))) : List Int)).bind fun y328 => (if (rd_T69 x1 x8).f4 = true then ((stepstoneref04_Cell.f x293000 x293001 x293002 x293003 x293004 x293005 x293006 (wrap64 (x8 + 1)) 2).bind fun t329 => (if 0 ≤ t329 then (if t329 < (x6.length : Int) then (stepstoneref11_Lay.j2 k x1 (y328.set (t329 : Int).toNat (IntKind.u64.wrap ((IntKind.u64.wrap (2 * ((rd_T69 x1 x8).f1))) + 1))) x8 x293000 x293001 x293002 x293003 x293004 x293005 x293006 ((rd_T69 x1 x8).f0) ((rd_T69 x1 x8).f1) ((rd_T69 x1 x8).f2) ((rd_T69 x1 x8).f3) ((rd_T69 x1 x8).f4)) else (none)) else (none))) else (stepstoneref11_Lay.j2 k x1 y328 x8 x293000 x293001 x293002 x293003 x293004 x293005 x293006 ((rd_T69 x1 x8).f0) ((rd_T69 x1 x8).f1) ((rd_T69 x1 x8).f2) ((rd_T69 x1 x8).f3) ((rd_T69 x1 x8).f4)))) else (none)) else (none))) else (none)) else (none))) else (none)) else (none)))) else (none)) else (some x6)
def stepstoneref11_Lay.j2 : Nat → List (S69) → List Int → Int → Int → Int → Int → Int → Int → Int → Int → Int → Int → Int → Int → Bool → Option (List Int)
 | 0, _, _, _, _, _, _, _, _, _, _, _, _, _, _, _ => none
 | k + 1, x1, x6, x8, x293000, x293001, x293002, x293003, x293004, x293005, x293006, x322000, x322001, x322002, x322003, x322004 => (stepstoneref04_Cell.f x293000 x293001 x293002 x293003 x293004 x293005 x293006 (wrap64 (x8 + 1)) 3).bind fun t331 => (if 0 ≤ t331 then (if t331 < (x6.length : Int) then ((stepstoneref04_Cell.f x293000 x293001 x293002 x293003 x293004 x293005 x293006 (wrap64 (x8 + 1)) 4).bind fun t333 => (if 0 ≤ t333 then (if t333 < (x6.length : Int) then ((stepstoneref04_Cell.f x293000 x293001 x293002 x293003 x293004 x293005 x293006 (wrap64 (x8 + 1)) 5).bind fun t335 => (if 0 ≤ t335 then (if t335 < (x6.length : Int) then (stepstoneref11_Lay.l2 k x1 (((x6.set (t331 : Int).toNat 1).set (t333 : Int).toNat (IntKind.u64.wrap (x322002))).set (t335 : Int).toNat 1) x8 0 x293000 x293001 x293002 x293003 x293004 x293005 x293006 x322000 x322001 x322002 x322003 x322004) else (none)) else (none))) else (none)) else (none))) else (none)) else (none))
def stepstoneref11_Lay.l2 : Nat → List (S69) → List Int → Int → Int → Int → Int → Int → Int → Int → Int → Int → Int → Int → Int → Int → Bool → Option (List Int)
 | 0, _, _, _, _, _, _, _, _, _, _, _, _, _, _, _, _ => none
 | k + 1, x1, x6, x8, x10, x293000, x293001, x293002, x293003, x293004, x293005, x293006, x322000, x322001, x322002, x322003, x322004 => if x10 < x322002 then ((stepstoneref11_behind.f k x1 x8 x10).bind fun t337 => (if x10 ≥ (wrap64 (x322002 - x322003)) then ((stepstoneref01_Mark.f t337).bind fun t338 => ((stepstoneref04_Cell.f x293000 x293001 x293002 x293003 x293004 x293005 x293006 (wrap64 (x8 + 1)) (wrap64 (6 + x10))).bind fun t339 => (if 0 ≤ t339 then (if t339 < (x6.length : Int) then (stepstoneref11_Lay.l2 k x1 (x6.set (t339 : Int).toNat t338) x8 (wrap64 (x10 + 1)) x293000 x293001 x293002 x293003 x293004 x293005 x293006 x322000 x322001 x322002 x322003 x322004) else (none)) else (none)))) else ((stepstoneref04_Cell.f x293000 x293001 x293002 x293003 x293004 x293005 x293006 (wrap64 (x8 + 1)) (wrap64 (6 + x10))).bind fun t341 => (if 0 ≤ t341 then (if t341 < (x6.length : Int) then (stepstoneref11_Lay.l2 k x1 (x6.set (t341 : Int).toNat t337) x8 (wrap64 (x10 + 1)) x293000 x293001 x293002 x293003 x293004 x293005 x293006 x322000 x322001 x322002 x322003 x322004) else (none)) else (none))))) else (stepstoneref11_Lay.l1 k x1 x6 (wrap64 (x8 + 1)) x293000 x293001 x293002 x293003 x293004 x293005 x293006)
end
def stepstoneref11_Lay.f (k : Nat) (a0_0 : Int) (a0_1 : Int) (a0_2 : Int) (a0_3 : Int) (a0_4 : Int) (a0_5 : Int) (a0_6 : Int) (l1 : List (S69)) : Option (List Int) := (stepstoneref05_New.f a0_0 a0_1 a0_2 a0_3 a0_4 a0_5 a0_6).bind fun bt293 => ((some (([] : List Int) : List Int)).bind fun y311 => (if y311.length + bt293.2.2.2.2.2.2.2.1.length < 17592186044416 then (stepstoneref11_Lay.l0 k l1 (y311 ++ bt293.2.2.2.2.2.2.2.1) 0 a0_0 a0_1 a0_2 a0_3 a0_4 a0_5 a0_6) else (none)))
theorem stepstoneref11_Lay.mono_l : ∀ k, (∀ y0 y1 y2 y3 y4 y5 y6 y7 y8 y9, LeO (stepstoneref11_Lay.l0 k y0 y1 y2 y3 y4 y5 y6 y7 y8 y9) (stepstoneref11_Lay.l0 (k + 1) y0 y1 y2 y3 y4 y5 y6 y7 y8 y9)) ∧ (∀ y0 y1 y2 y3 y4 y5 y6 y7 y8 y9, LeO (stepstoneref11_Lay.l1 k y0 y1 y2 y3 y4 y5 y6 y7 y8 y9) (stepstoneref11_Lay.l1 (k + 1) y0 y1 y2 y3 y4 y5 y6 y7 y8 y9)) ∧ (∀ y0 y1 y2 y3 y4 y5 y6 y7 y8 y9 y10 y11 y12 y13 y14, LeO (stepstoneref11_Lay.j2 k y0 y1 y2 y3 y4 y5 y6 y7 y8 y9 y10 y11 y12 y13 y14) (stepstoneref11_Lay.j2 (k + 1) y0 y1 y2 y3 y4 y5 y6 y7 y8 y9 y10 y11 y12 y13 y14)) ∧ (∀ y0 y1 y2 y3 y4 y5 y6 y7 y8 y9 y10 y11 y12 y13 y14 y15, LeO (stepstoneref11_Lay.l2 k y0 y1 y2 y3 y4 y5 y6 y7 y8 y9 y10 y11 y12 y13 y14 y15) (stepstoneref11_Lay.l2 (k + 1) y0 y1 y2 y3 y4 y5 y6 y7 y8 y9 y10 y11 y12 y13 y14 y15))
 | 0 => ⟨fun _ _ _ _ _ _ _ _ _ _ r h => by simp [stepstoneref11_Lay.l0] at h, fun _ _ _ _ _ _ _ _ _ _ r h => by simp [stepstoneref11_Lay.l1] at h, fun _ _ _ _ _ _ _ _ _ _ _ _ _ _ _ r h => by simp [stepstoneref11_Lay.j2] at h, fun _ _ _ _ _ _ _ _ _ _ _ _ _ _ _ _ r h => by simp [stepstoneref11_Lay.l2] at h⟩
 | k + 1 => by
  obtain ⟨ih0, ih1, ih2, ih3⟩ := stepstoneref11_Lay.mono_l k
  refine ⟨?_, ?_, ?_, ?_⟩
  ·intro y0 y1 y2 y3 y4 y5 y6 y7 y8 y9
   unfold stepstoneref11_Lay.l0
   repeat' first
   | (with_reducible exact ih0 _ _ _ _ _ _ _ _ _ _)
   | (with_reducible exact ih1 _ _ _ _ _ _ _ _ _ _)
   | (with_reducible exact ih2 _ _ _ _ _ _ _ _ _ _ _ _ _ _ _)
   | (with_reducible exact ih3 _ _ _ _ _ _ _ _ _ _ _ _ _ _ _ _)
   | (with_reducible exact stepstoneref11_behind.mono _ _ _ _)
   | (with_reducible exact LeO.refl _)
   | (with_reducible exact LeO.none _)
   | (with_reducible refine LeO.ite ?_ ?_)
   | (with_reducible refine LeO.bind ?_ (fun _ => ?_))
   | exact ih0 _ _ _ _ _ _ _ _ _ _
   | exact ih1 _ _ _ _ _ _ _ _ _ _
   | exact ih2 _ _ _ _ _ _ _ _ _ _ _ _ _ _ _
   | exact ih3 _ _ _ _ _ _ _ _ _ _ _ _ _ _ _ _
   | exact stepstoneref11_behind.mono _ _ _ _
   | exact LeO.none _
   | refine LeO.ite ?_ ?_
   | refine LeO.bind ?_ (fun _ => ?_)
  ·intro y0 y1 y2 y3 y4 y5 y6 y7 y8 y9
   unfold stepstoneref11_Lay.l1
   repeat' first
   | (with_reducible exact ih0 _ _ _ _ _ _ _ _ _ _)
   | (with_reducible exact ih1 _ _ _ _ _ _ _ _ _ _)
   | (with_reducible exact ih2 _ _ _ _ _ _ _ _ _ _ _ _ _ _ _)
   | (with_reducible exact ih3 _ _ _ _ _ _ _ _ _ _ _ _ _ _ _ _)
   | (with_reducible exact stepstoneref11_behind.mono _ _ _ _)
   | (with_reducible exact LeO.refl _)
   | (with_reducible exact LeO.none _)
   | (with_reducible refine LeO.ite ?_ ?_)
   | (with_reducible refine LeO.bind ?_ (fun _ => ?_))
   | exact ih0 _ _ _ _ _ _ _ _ _ _
   | exact ih1 _ _ _ _ _ _ _ _ _ _
   | exact ih2 _ _ _ _ _ _ _ _ _ _ _ _ _ _ _
   | exact ih3 _ _ _ _ _ _ _ _ _ _ _ _ _ _ _ _
   | exact stepstoneref11_behind.mono _ _ _ _
   | exact LeO.none _
   | refine LeO.ite ?_ ?_
   | refine LeO.bind ?_ (fun _ => ?_)
  ·intro y0 y1 y2 y3 y4 y5 y6 y7 y8 y9 y10 y11 y12 y13 y14
   unfold stepstoneref11_Lay.j2
   repeat' first
   | (with_reducible exact ih0 _ _ _ _ _ _ _ _ _ _)
   | (with_reducible exact ih1 _ _ _ _ _ _ _ _ _ _)
   | (with_reducible exact ih2 _ _ _ _ _ _ _ _ _ _ _ _ _ _ _)
   | (with_reducible exact ih3 _ _ _ _ _ _ _ _ _ _ _ _ _ _ _ _)
   | (with_reducible exact stepstoneref11_behind.mono _ _ _ _)
   | (with_reducible exact LeO.refl _)
   | (with_reducible exact LeO.none _)
   | (with_reducible refine LeO.ite ?_ ?_)
   | (with_reducible refine LeO.bind ?_ (fun _ => ?_))
   | exact ih0 _ _ _ _ _ _ _ _ _ _
   | exact ih1 _ _ _ _ _ _ _ _ _ _
   | exact ih2 _ _ _ _ _ _ _ _ _ _ _ _ _ _ _
   | exact ih3 _ _ _ _ _ _ _ _ _ _ _ _ _ _ _ _
   | exact stepstoneref11_behind.mono _ _ _ _
   | exact LeO.none _
   | refine LeO.ite ?_ ?_
   | refine LeO.bind ?_ (fun _ => ?_)
  ·intro y0 y1 y2 y3 y4 y5 y6 y7 y8 y9 y10 y11 y12 y13 y14 y15
   unfold stepstoneref11_Lay.l2
   repeat' first
   | (with_reducible exact ih0 _ _ _ _ _ _ _ _ _ _)
   | (with_reducible exact ih1 _ _ _ _ _ _ _ _ _ _)
   | (with_reducible exact ih2 _ _ _ _ _ _ _ _ _ _ _ _ _ _ _)
   | (with_reducible exact ih3 _ _ _ _ _ _ _ _ _ _ _ _ _ _ _ _)
   | (with_reducible exact stepstoneref11_behind.mono _ _ _ _)
   | (with_reducible exact LeO.refl _)
   | (with_reducible exact LeO.none _)
   | (with_reducible refine LeO.ite ?_ ?_)
   | (with_reducible refine LeO.bind ?_ (fun _ => ?_))
   | exact ih0 _ _ _ _ _ _ _ _ _ _
   | exact ih1 _ _ _ _ _ _ _ _ _ _
   | exact ih2 _ _ _ _ _ _ _ _ _ _ _ _ _ _ _
   | exact ih3 _ _ _ _ _ _ _ _ _ _ _ _ _ _ _ _
   | exact stepstoneref11_behind.mono _ _ _ _
   | exact LeO.none _
   | refine LeO.ite ?_ ?_
   | refine LeO.bind ?_ (fun _ => ?_)
theorem stepstoneref11_Lay.mono : ∀ a0 a1 a2 a3 a4 a5 a6 a7 k, LeO (stepstoneref11_Lay.f k a0 a1 a2 a3 a4 a5 a6 a7) (stepstoneref11_Lay.f (k + 1) a0 a1 a2 a3 a4 a5 a6 a7) := by
 intro a0 a1 a2 a3 a4 a5 a6 a7 k
 obtain ⟨ih0, ih1, ih2, ih3⟩ := stepstoneref11_Lay.mono_l k
 unfold stepstoneref11_Lay.f
 repeat' first
   | (with_reducible exact ih0 _ _ _ _ _ _ _ _ _ _)
   | (with_reducible exact ih1 _ _ _ _ _ _ _ _ _ _)
   | (with_reducible exact ih2 _ _ _ _ _ _ _ _ _ _ _ _ _ _ _)
   | (with_reducible exact ih3 _ _ _ _ _ _ _ _ _ _ _ _ _ _ _ _)
   | (with_reducible exact stepstoneref11_behind.mono _ _ _ _)
   | (with_reducible exact LeO.refl _)
   | (with_reducible exact LeO.none _)
   | (with_reducible refine LeO.ite ?_ ?_)
   | (with_reducible refine LeO.bind ?_ (fun _ => ?_))
   | exact ih0 _ _ _ _ _ _ _ _ _ _
   | exact ih1 _ _ _ _ _ _ _ _ _ _
   | exact ih2 _ _ _ _ _ _ _ _ _ _ _ _ _ _ _
   | exact ih3 _ _ _ _ _ _ _ _ _ _ _ _ _ _ _ _
   | exact stepstoneref11_behind.mono _ _ _ _
   | exact LeO.none _
   | refine LeO.ite ?_ ?_
   | refine LeO.bind ?_ (fun _ => ?_)
def stepstoneref11_Lay.T12 : Bool × List (List Nat × List Nat) := (true, [([], []), ([], []), ([], []), ([2], [2]), ([1, 3], [1, 3]), ([], []), ([5], [5]), ([0, 4, 0, 1, 2, 3, 4, 5, 6], [0, 4]), ([7, 6, 4, 0, 1, 2, 3, 4, 5, 6], [6, 7])])
def stepstoneref11_Lay.B12 : List Nat := [0, 0, 0, 4, 14, 0, 32, 127, 255]
theorem stepstoneref11_Lay.tab12 : rtab .any (opsOf Try.f38 12) = stepstoneref11_Lay.T12 := by kernel_rfl
theorem stepstoneref11_Lay.bits12 : waitsOk stepstoneref11_Lay.T12.2 stepstoneref11_Lay.B12 = true := by kernel_rfl
def stepstoneref11_Lay.T13 : Bool × List (List Nat × List Nat) := (true, [([], []), ([], []), ([], []), ([2], [2]), ([1, 3], [1, 3]), ([], []), ([5], [5]), ([6], [6]), ([0, 4, 0, 1, 2, 3, 4, 5, 6, 7], [0, 4]), ([8, 7, 4, 0, 1, 2, 3, 4, 5, 6, 7], [7, 8])])
def stepstoneref11_Lay.B13 : List Nat := [0, 0, 0, 4, 14, 0, 32, 96, 255, 511]
theorem stepstoneref11_Lay.tab13 : rtab .any (opsOf Try.f38 13) = stepstoneref11_Lay.T13 := by kernel_rfl
theorem stepstoneref11_Lay.bits13 : waitsOk stepstoneref11_Lay.T13.2 stepstoneref11_Lay.B13 = true := by kernel_rfl
def stepstoneref11_Lay.T15 : Bool × List (List Nat × List Nat) := (true, [([], []), ([], []), ([], []), ([2], [2]), ([1, 3], [1, 3]), ([], []), ([5], [5]), ([6], [6]), ([7], [7]), ([0, 4, 0, 1, 2, 3, 4, 5, 6, 7, 8], [0, 4]), ([9, 8, 4, 0, 1, 2, 3, 4, 5, 6, 7, 8], [8, 9])])
def stepstoneref11_Lay.B15 : List Nat := [0, 0, 0, 4, 14, 0, 32, 96, 224, 511, 1023]
theorem stepstoneref11_Lay.tab15 : rtab .any (opsOf Try.f38 15) = stepstoneref11_Lay.T15 := by kernel_rfl
theorem stepstoneref11_Lay.bits15 : waitsOk stepstoneref11_Lay.T15.2 stepstoneref11_Lay.B15 = true := by kernel_rfl
def stepstoneref11_Lay.T17 : Bool × List (List Nat × List Nat) := (true, [([], []), ([], []), ([], []), ([2], [2]), ([1, 3], [1, 3]), ([], []), ([5], [5]), ([6], [6]), ([0, 4, 0, 1, 2, 3, 4, 5, 6, 7], [0, 4]), ([8, 7, 4, 0, 1, 2, 3, 4, 5, 6, 7], [7, 8])])
def stepstoneref11_Lay.B17 : List Nat := [0, 0, 0, 4, 14, 0, 32, 96, 255, 511]
theorem stepstoneref11_Lay.tab17 : rtab .any (opsOf Try.f38 17) = stepstoneref11_Lay.T17 := by kernel_rfl
theorem stepstoneref11_Lay.bits17 : waitsOk stepstoneref11_Lay.T17.2 stepstoneref11_Lay.B17 = true := by kernel_rfl
set_option maxHeartbeats 8000000 in
set_option maxRecDepth 100000 in
theorem stepstoneref11_Lay.calls (k : Nat) (a0_0 : Int) (a0_1 : Int) (a0_2 : Int) (a0_3 : Int) (a0_4 : Int) (a0_5 : Int) (a0_6 : Int) (A1 : Option Addr) (c1 : Nat) (l1 : List (S69)) (r : List Int) (w : World) (hr1 : Kd.C k69 w A1 l1.length l1) (hc1 : l1.length ≤ c1) (h : stepstoneref11_Lay.f k a0_0 a0_1 a0_2 a0_3 a0_4 a0_5 a0_6 l1 = some r) :
  Calls Try.prog 38 #[.agg #[.int .i64 a0_0, .int .i64 a0_1, .int .i64 a0_2, .int .i64 a0_3, .int .i64 a0_4, .int .i64 a0_5, .int .i64 a0_6], .slice A1 l1.length c1] w fun e w' => ∃ v0_ : Value, e = .returned (v0_) ∧ Kd.R (Kd.int .u64) 40 w' w.heap.size (fun _ => True) v0_ r ∧ Below w.heap.size w w' := by
 have hu23 := Try.underlying23
 have hu50 := Try.underlying50
 have hu69 := Try.underlying69
 have HR1 := Aside0.mk hr1
 have HC1 := Aside0.mk hc1
 clear hr1 hc1
 have HB := Aside0.mk (Below.refl w.heap.size w)
 have H : ((stepstoneref05_New.f a0_0 a0_1 a0_2 a0_3 a0_4 a0_5 a0_6).bind fun bt293 => ((some (([] : List Int) : List Int)).bind fun y311 => (if y311.length + bt293.2.2.2.2.2.2.2.1.length < 17592186044416 then (stepstoneref11_Lay.l0 k l1 (y311 ++ bt293.2.2.2.2.2.2.2.1) 0 a0_0 a0_1 a0_2 a0_3 a0_4 a0_5 a0_6) else (none)))) = some r := h
 clear h
 replace H := Option.bind_eq_some_iff.mp H
 obtain ⟨⟨t293, t294, t295, t296, t297, t298, t299, t300, t303, t304, t305, t306, t307, t308, t309⟩, A30, H⟩ := H
 replace H : ((some (([] : List Int) : List Int)).bind fun y311 => (if y311.length + t300.length < 17592186044416 then (stepstoneref11_Lay.l0 k l1 (y311 ++ t300) 0 a0_0 a0_1 a0_2 a0_3 a0_4 a0_5 a0_6) else (none))) = some r := H
 have A3 := Aside0.mk A30
 clear A30
 obtain ⟨y311, hy311⟩ : ∃ y_ : List Int, y_ = (([] : List Int)) := ⟨_, rfl⟩
 replace H : (if y311.length + t300.length < 17592186044416 then (stepstoneref11_Lay.l0 k l1 (y311 ++ t300) 0 a0_0 a0_1 a0_2 a0_3 a0_4 a0_5 a0_6) else (none)) = some r := by first | (rw [hy311]; with_reducible exact H) | (have H2_ := (Option.bind_some _ _).symm.trans H; rw [hy311]; with_reducible exact H2_) | (have H2_ := (Option.bind_some _ _).symm.trans H; with_reducible exact H2_) | with_reducible exact H | (rw [hy311]; exact H) | exact H
 have Ny311 := Aside0.mk hy311
 clear hy311
 by_cases c4 : y311.length + t300.length < 17592186044416
 ·rw [if_pos c4] at H
  have LMc4 := Aside0.mk c4
  clear c4
  obtain ⟨y314, hy314⟩ : ∃ y_ : List Int, y_ = (y311 ++ t300) := ⟨_, rfl⟩
  replace H : (stepstoneref11_Lay.l0 k l1 y314 0 a0_0 a0_1 a0_2 a0_3 a0_4 a0_5 a0_6) = some r := by first | (rw [hy314]; with_reducible exact H) | (have H2_ := (Option.bind_some _ _).symm.trans H; rw [hy314]; with_reducible exact H2_) | (have H2_ := (Option.bind_some _ _).symm.trans H; with_reducible exact H2_) | with_reducible exact H | (rw [hy314]; exact H) | exact H
  have Ny314 := Aside0.mk hy314
  clear hy314
  have H' := Aside0.mk H
  clear H
  go_enter Try.func38, Try.ntmps38
  go_wp2_with (first | ((with_reducible refine gate_dst (N := 2) rfl ?_); refine box_event ?hg (N := 2) ?hd (cs := #[.int .i64 a0_0, .int .i64 a0_1, .int .i64 a0_2, .int .i64 a0_3, .int .i64 a0_4, .int .i64 a0_5, .int .i64 a0_6]) (t := 23) ?hr ?_; (case hd => rfl); (case hg => rfl); (case hr => first | (go_simp; done) | (go_simp; rfl)); intro gb292 hg w5 hbox hb; have n0_ := Aside0.mk (below_step (by repeat (first | (with_reducible first | exact HB.out | apply below_alloc | apply pw_below_drewN | apply below_drew1) | exact HB.out)) hb); have n1_ := Aside0.mk (hbox); have n2_ := Aside0.mk ((by rw [hg]; exact (below_size (by repeat (first | (with_reducible first | exact HB.out | apply below_alloc | apply pw_below_drewN | apply below_drew1) | exact HB.out))) : w.heap.size ≤ gb292)); have n3_ := Aside0.mk ((by rw [hg]; exact (below_size (by repeat (first | (with_reducible first | exact HB.out | apply below_alloc | apply pw_below_drewN | apply below_drew1) | exact HB.out))) : w.heap.size ≤ gb292)); clear HB; have HB := n0_; have BK292 := n1_; have GW292 := n2_; have GE292 := n3_; clear n0_ n1_ n2_ n3_; clear hb hbox hg; have hcz6_0 : w5.cell? ⟨gb292, 0, none⟩ = some (.int .i64 a0_0) := (blk_cell BK292.out 0).trans rfl; have hcz6_1 : w5.cell? ⟨gb292, 1, none⟩ = some (.int .i64 a0_1) := (blk_cell BK292.out 1).trans rfl; have hcz6_2 : w5.cell? ⟨gb292, 2, none⟩ = some (.int .i64 a0_2) := (blk_cell BK292.out 2).trans rfl; have hcz6_3 : w5.cell? ⟨gb292, 3, none⟩ = some (.int .i64 a0_3) := (blk_cell BK292.out 3).trans rfl; have hcz6_4 : w5.cell? ⟨gb292, 4, none⟩ = some (.int .i64 a0_4) := (blk_cell BK292.out 4).trans rfl; have hcz6_5 : w5.cell? ⟨gb292, 5, none⟩ = some (.int .i64 a0_5) := (blk_cell BK292.out 5).trans rfl; have hcz6_6 : w5.cell? ⟨gb292, 6, none⟩ = some (.int .i64 a0_6) := (blk_cell BK292.out 6).trans rfl; have hfz6_0 := blk_frozen BK292.out 0; have hfz6_1 := blk_frozen BK292.out 1; have hfz6_2 := blk_frozen BK292.out 2; have hfz6_3 := blk_frozen BK292.out 3; have hfz6_4 := blk_frozen BK292.out 4; have hfz6_5 := blk_frozen BK292.out 5; have hfz6_6 := blk_frozen BK292.out 6) | ((with_reducible refine gate_callee (f := 59) rfl ?_); refine goesL_ (some 13) rfl rfl Try.func59 (by kernel_rfl) rfl #[.agg #[.int .i64 a0_0, .int .i64 a0_1, .int .i64 a0_2, .int .i64 a0_3, .int .i64 a0_4, .int .i64 a0_5, .int .i64 a0_6]] rfl (by (try simp only [List.map_toArray, List.map_cons, List.map_nil]); first | done | rfl | (simp only [List.length_drop, List.length_take]; rfl)) ?_; (with_reducible refine (stepstoneref05_New.calls a0_0 a0_1 a0_2 a0_3 a0_4 a0_5 a0_6 t293 t294 t295 t296 t297 t298 t299 t300 t303 t304 t305 t306 t307 t308 t309 _ A3.out).mono ?_); rintro e w7 ⟨v301, rfl, ho0, hb⟩; refine ⟨_, rfl, ?_⟩; have n0_ := Aside0.mk (Kd.R_lower ho0 (below_size (by repeat (first | (with_reducible first | exact HB.out | apply below_alloc | apply pw_below_drewN | apply below_drew1 | refine below_set ?_ GE292.out) | exact HB.out)))); have n1_ := Aside0.mk (blk_below (g := gb292) (o := .cells #[.int .i64 a0_0, .int .i64 a0_1, .int .i64 a0_2, .int .i64 a0_3, .int .i64 a0_4, .int .i64 a0_5, .int .i64 a0_6] 23 (0, 0)) (by (with_reducible repeat (first | refine blk_drewN ?_ _ | refine blk_drew ?_ | refine blk_alloc ?_ _)); exact BK292.out) hb); have n2_ := Aside0.mk (below_step (by repeat (first | (with_reducible first | exact HB.out | apply below_alloc | apply pw_below_drewN | apply below_drew1 | refine below_set ?_ GE292.out) | exact HB.out)) hb); clear BK292; clear HB; have HO302 := n0_; have BK292 := n1_; have HB := n2_; clear n0_ n1_ n2_; (try clear hb); (try clear hb2); (try clear hk); (try clear hi); (try clear ho0)) | ((with_reducible refine gate_dst (N := 5) rfl ?_); refine box_event ?hg (N := 5) ?hd (cs := #[.int .i64 0, .int .i64 0, .int .i64 0, .int .i64 0, .int .i64 0, .int .i64 0, .int .i64 0, .slice none 0 0, .int .i64 0, .int .i64 0, .int .i64 0, .int .u64 0, .int .u64 0, .int .u64 0, .bool false]) (t := 50) ?hr ?_; (case hd => rfl); (case hg => rfl); (case hr => first | (go_simp; done) | (go_simp; rfl)); intro gb310 hg w8 hbox hb; have n0_ := Aside0.mk (Kd.R_below (by (with_reducible repeat (first | apply Kd.R_alloc | apply Kd.R_drewN | apply Kd.R_drew)); exact HO302.out) hb); have n1_ := Aside0.mk (blk_below (g := gb292) (o := .cells #[.int .i64 a0_0, .int .i64 a0_1, .int .i64 a0_2, .int .i64 a0_3, .int .i64 a0_4, .int .i64 a0_5, .int .i64 a0_6] 23 (0, 0)) (by (with_reducible repeat (first | refine blk_drewN ?_ _ | refine blk_drew ?_ | refine blk_alloc ?_ _)); exact BK292.out) hb); have n2_ := Aside0.mk (below_step (by repeat (first | (with_reducible first | exact HB.out | apply below_alloc | apply pw_below_drewN | apply below_drew1 | refine below_set ?_ GE292.out) | exact HB.out)) hb); have n3_ := Aside0.mk (hbox); have n4_ := Aside0.mk ((by rw [hg]; exact (below_size (by repeat (first | (with_reducible first | exact HB.out | apply below_alloc | apply pw_below_drewN | apply below_drew1 | refine below_set ?_ GE292.out) | exact HB.out))) : w.heap.size ≤ gb310)); have n5_ := Aside0.mk ((by rw [hg]; exact (below_size (by repeat (first | (with_reducible first | exact HB.out | apply below_alloc | apply pw_below_drewN | apply below_drew1 | refine below_set ?_ GE292.out) | exact HB.out))) : w.heap.size ≤ gb310)); have n6_ := Aside0.mk ((by rw [hg]; exact Nat.ne_of_lt (blk_lt (g := gb292) (o := .cells #[.int .i64 a0_0, .int .i64 a0_1, .int .i64 a0_2, .int .i64 a0_3, .int .i64 a0_4, .int .i64 a0_5, .int .i64 a0_6] 23 (0, 0)) (by (with_reducible repeat (first | refine blk_drewN ?_ _ | refine blk_drew ?_ | refine blk_alloc ?_ _)); exact BK292.out)) : gb292 ≠ gb310)); have n7_ := Aside0.mk ((by rw [hg]; exact Nat.ne_of_gt (blk_lt (g := gb292) (o := .cells #[.int .i64 a0_0, .int .i64 a0_1, .int .i64 a0_2, .int .i64 a0_3, .int .i64 a0_4, .int .i64 a0_5, .int .i64 a0_6] 23 (0, 0)) (by (with_reducible repeat (first | refine blk_drewN ?_ _ | refine blk_drew ?_ | refine blk_alloc ?_ _)); exact BK292.out)) : gb310 ≠ gb292)); clear HO302; clear BK292; clear HB; have HO302 := n0_; have BK292 := n1_; have HB := n2_; have BK310 := n3_; have GW310 := n4_; have GE310 := n5_; have NB292_310 := n6_; have NB310_292 := n7_; clear n0_ n1_ n2_ n3_ n4_ n5_ n6_ n7_; clear hb hbox hg; have hnb9 := NB310_292.out; have hnc9 := NB292_310.out; have hcz10_0 : w8.cell? ⟨gb310, 0, none⟩ = some (.int .i64 0) := (blk_cell BK310.out 0).trans rfl; have hcz10_1 : w8.cell? ⟨gb310, 1, none⟩ = some (.int .i64 0) := (blk_cell BK310.out 1).trans rfl; have hcz10_2 : w8.cell? ⟨gb310, 2, none⟩ = some (.int .i64 0) := (blk_cell BK310.out 2).trans rfl; have hcz10_3 : w8.cell? ⟨gb310, 3, none⟩ = some (.int .i64 0) := (blk_cell BK310.out 3).trans rfl; have hcz10_4 : w8.cell? ⟨gb310, 4, none⟩ = some (.int .i64 0) := (blk_cell BK310.out 4).trans rfl; have hcz10_5 : w8.cell? ⟨gb310, 5, none⟩ = some (.int .i64 0) := (blk_cell BK310.out 5).trans rfl; have hcz10_6 : w8.cell? ⟨gb310, 6, none⟩ = some (.int .i64 0) := (blk_cell BK310.out 6).trans rfl; have hcz10_7 : w8.cell? ⟨gb310, 7, none⟩ = some (.slice none 0 0) := (blk_cell BK310.out 7).trans rfl; have hcz10_8 : w8.cell? ⟨gb310, 8, none⟩ = some (.int .i64 0) := (blk_cell BK310.out 8).trans rfl; have hcz10_9 : w8.cell? ⟨gb310, 9, none⟩ = some (.int .i64 0) := (blk_cell BK310.out 9).trans rfl; have hcz10_10 : w8.cell? ⟨gb310, 10, none⟩ = some (.int .i64 0) := (blk_cell BK310.out 10).trans rfl; have hcz10_11 : w8.cell? ⟨gb310, 11, none⟩ = some (.int .u64 0) := (blk_cell BK310.out 11).trans rfl; have hcz10_12 : w8.cell? ⟨gb310, 12, none⟩ = some (.int .u64 0) := (blk_cell BK310.out 12).trans rfl; have hcz10_13 : w8.cell? ⟨gb310, 13, none⟩ = some (.int .u64 0) := (blk_cell BK310.out 13).trans rfl; have hcz10_14 : w8.cell? ⟨gb310, 14, none⟩ = some (.bool false) := (blk_cell BK310.out 14).trans rfl; have hfz10_0 := blk_frozen BK310.out 0; have hfz10_1 := blk_frozen BK310.out 1; have hfz10_2 := blk_frozen BK310.out 2; have hfz10_3 := blk_frozen BK310.out 3; have hfz10_4 := blk_frozen BK310.out 4; have hfz10_5 := blk_frozen BK310.out 5; have hfz10_6 := blk_frozen BK310.out 6; have hfz10_7 := blk_frozen BK310.out 7; have hfz10_8 := blk_frozen BK310.out 8; have hfz10_9 := blk_frozen BK310.out 9; have hfz10_10 := blk_frozen BK310.out 10; have hfz10_11 := blk_frozen BK310.out 11; have hfz10_12 := blk_frozen BK310.out 12; have hfz10_13 := blk_frozen BK310.out 13; have hfz10_14 := blk_frozen BK310.out 14; obtain ⟨Ao11, co11, eo11⟩ := Kd.R_slice HO302.out; subst eo11) | ((with_reducible refine gate_dst (N := 14) rfl ?_); refine Kd.R_lit (Kd.int .u64) _ 40 ?hg (N := 14) ?hd (xs := ([] : List Int)) (inner := []) (ok := fun _ => True) (okp := fun _ => True) ?hr ?hp (fun _ hk => hk) trivial (Below.refl _ _) (Nat.le_refl _) (by simp) ?_; (case hd => rfl); (case hg => rfl); (case hr => first | (go_simp; done) | (go_simp; rfl)); (case hp => exact (Reps.none _ _)); intro v312 w12 ho13 hb hg_ hnew_; clear hg_ hnew_; (first | rw [← Ny311.out] at ho13 | (simp only [Int.reduceToNat] at ho13; rw [← Ny311.out] at ho13)); have n0_ := Aside0.mk (Kd.R_elder' (by (with_reducible repeat (first | apply Kd.R_alloc | apply Kd.R_drewN | apply Kd.R_drew)); exact (Kd.R_mono (Kd.R_far (p := ⟨gb310, 14, none⟩) (Kd.R_far (p := ⟨gb310, 13, none⟩) (Kd.R_far (p := ⟨gb310, 12, none⟩) (Kd.R_far (p := ⟨gb310, 11, none⟩) (Kd.R_far (p := ⟨gb310, 10, none⟩) (Kd.R_far (p := ⟨gb310, 9, none⟩) (Kd.R_far (p := ⟨gb310, 8, none⟩) (Kd.R_far (p := ⟨gb310, 7, none⟩) (Kd.R_far (p := ⟨gb310, 6, none⟩) (Kd.R_far (p := ⟨gb310, 5, none⟩) (Kd.R_far (p := ⟨gb310, 4, none⟩) (Kd.R_far (p := ⟨gb310, 3, none⟩) (Kd.R_far (p := ⟨gb310, 2, none⟩) (Kd.R_far (p := ⟨gb310, 1, none⟩) (Kd.R_far (p := ⟨gb310, 0, none⟩) (Kd.R_types HO302.out BK310.out (by decide)) (fun _ hk => hk.2) (.int .i64 t293)) (fun _ hk => hk.2) (.int .i64 t294)) (fun _ hk => hk.2) (.int .i64 t295)) (fun _ hk => hk.2) (.int .i64 t296)) (fun _ hk => hk.2) (.int .i64 t297)) (fun _ hk => hk.2) (.int .i64 t298)) (fun _ hk => hk.2) (.int .i64 t299)) (fun _ hk => hk.2) (.slice Ao11 t300.length co11)) (fun _ hk => hk.2) (.int .i64 t303)) (fun _ hk => hk.2) (.int .i64 t304)) (fun _ hk => hk.2) (.int .i64 t305)) (fun _ hk => hk.2) (.int .u64 t306)) (fun _ hk => hk.2) (.int .u64 t307)) (fun _ hk => hk.2) (.int .u64 t308)) (fun _ hk => hk.2) (.bool t309)) (fun _ h_ => h_.1))) (Kd.R_base ho13) hb); have n1_ := Aside0.mk (Kd.R_lower (Kd.R_new' ho13 (Kd.R_lt (by (with_reducible repeat (first | apply Kd.R_alloc | apply Kd.R_drewN | apply Kd.R_drew)); exact (Kd.R_mono (Kd.R_far (p := ⟨gb310, 14, none⟩) (Kd.R_far (p := ⟨gb310, 13, none⟩) (Kd.R_far (p := ⟨gb310, 12, none⟩) (Kd.R_far (p := ⟨gb310, 11, none⟩) (Kd.R_far (p := ⟨gb310, 10, none⟩) (Kd.R_far (p := ⟨gb310, 9, none⟩) (Kd.R_far (p := ⟨gb310, 8, none⟩) (Kd.R_far (p := ⟨gb310, 7, none⟩) (Kd.R_far (p := ⟨gb310, 6, none⟩) (Kd.R_far (p := ⟨gb310, 5, none⟩) (Kd.R_far (p := ⟨gb310, 4, none⟩) (Kd.R_far (p := ⟨gb310, 3, none⟩) (Kd.R_far (p := ⟨gb310, 2, none⟩) (Kd.R_far (p := ⟨gb310, 1, none⟩) (Kd.R_far (p := ⟨gb310, 0, none⟩) (Kd.R_types HO302.out BK310.out (by decide)) (fun _ hk => hk.2) (.int .i64 t293)) (fun _ hk => hk.2) (.int .i64 t294)) (fun _ hk => hk.2) (.int .i64 t295)) (fun _ hk => hk.2) (.int .i64 t296)) (fun _ hk => hk.2) (.int .i64 t297)) (fun _ hk => hk.2) (.int .i64 t298)) (fun _ hk => hk.2) (.int .i64 t299)) (fun _ hk => hk.2) (.slice Ao11 t300.length co11)) (fun _ hk => hk.2) (.int .i64 t303)) (fun _ hk => hk.2) (.int .i64 t304)) (fun _ hk => hk.2) (.int .i64 t305)) (fun _ hk => hk.2) (.int .u64 t306)) (fun _ hk => hk.2) (.int .u64 t307)) (fun _ hk => hk.2) (.int .u64 t308)) (fun _ hk => hk.2) (.bool t309)) (fun _ h_ => h_.1))))) (below_size (by repeat (first | (with_reducible first | exact HB.out | apply below_alloc | apply pw_below_drewN | apply below_drew1 | refine below_set ?_ GE292.out | refine below_set ?_ GE310.out) | exact HB.out)))); have n2_ := Aside0.mk (blk_below (g := gb292) (o := .cells #[.int .i64 a0_0, .int .i64 a0_1, .int .i64 a0_2, .int .i64 a0_3, .int .i64 a0_4, .int .i64 a0_5, .int .i64 a0_6] 23 (0, 0)) (by (with_reducible repeat (first | refine blk_drewN ?_ _ | refine blk_drew ?_ | refine blk_alloc ?_ _)); refine blk_far ?_ NB292_310.out _; (with_reducible repeat (first | refine blk_drewN ?_ _ | refine blk_drew ?_ | refine blk_alloc ?_ _)); refine blk_far ?_ NB292_310.out _; (with_reducible repeat (first | refine blk_drewN ?_ _ | refine blk_drew ?_ | refine blk_alloc ?_ _)); refine blk_far ?_ NB292_310.out _; (with_reducible repeat (first | refine blk_drewN ?_ _ | refine blk_drew ?_ | refine blk_alloc ?_ _)); refine blk_far ?_ NB292_310.out _; (with_reducible repeat (first | refine blk_drewN ?_ _ | refine blk_drew ?_ | refine blk_alloc ?_ _)); refine blk_far ?_ NB292_310.out _; (with_reducible repeat (first | refine blk_drewN ?_ _ | refine blk_drew ?_ | refine blk_alloc ?_ _)); refine blk_far ?_ NB292_310.out _; (with_reducible repeat (first | refine blk_drewN ?_ _ | refine blk_drew ?_ | refine blk_alloc ?_ _)); refine blk_far ?_ NB292_310.out _; (with_reducible repeat (first | refine blk_drewN ?_ _ | refine blk_drew ?_ | refine blk_alloc ?_ _)); refine blk_far ?_ NB292_310.out _; (with_reducible repeat (first | refine blk_drewN ?_ _ | refine blk_drew ?_ | refine blk_alloc ?_ _)); refine blk_far ?_ NB292_310.out _; (with_reducible repeat (first | refine blk_drewN ?_ _ | refine blk_drew ?_ | refine blk_alloc ?_ _)); refine blk_far ?_ NB292_310.out _; (with_reducible repeat (first | refine blk_drewN ?_ _ | refine blk_drew ?_ | refine blk_alloc ?_ _)); refine blk_far ?_ NB292_310.out _; (with_reducible repeat (first | refine blk_drewN ?_ _ | refine blk_drew ?_ | refine blk_alloc ?_ _)); refine blk_far ?_ NB292_310.out _; (with_reducible repeat (first | refine blk_drewN ?_ _ | refine blk_drew ?_ | refine blk_alloc ?_ _)); refine blk_far ?_ NB292_310.out _; (with_reducible repeat (first | refine blk_drewN ?_ _ | refine blk_drew ?_ | refine blk_alloc ?_ _)); refine blk_far ?_ NB292_310.out _; (with_reducible repeat (first | refine blk_drewN ?_ _ | refine blk_drew ?_ | refine blk_alloc ?_ _)); refine blk_far ?_ NB292_310.out _; (with_reducible repeat (first | refine blk_drewN ?_ _ | refine blk_drew ?_ | refine blk_alloc ?_ _)); exact BK292.out) hb); have n3_ := Aside0.mk (blk_below (g := gb310) (o := .cells #[.int .i64 t293, .int .i64 t294, .int .i64 t295, .int .i64 t296, .int .i64 t297, .int .i64 t298, .int .i64 t299, .slice Ao11 t300.length co11, .int .i64 t303, .int .i64 t304, .int .i64 t305, .int .u64 t306, .int .u64 t307, .int .u64 t308, .bool t309] 50 (0, 0)) (by (with_reducible repeat (first | refine blk_drewN ?_ _ | refine blk_drew ?_ | refine blk_alloc ?_ _)); refine blk_put (cs := #[.int .i64 t293, .int .i64 t294, .int .i64 t295, .int .i64 t296, .int .i64 t297, .int .i64 t298, .int .i64 t299, .slice Ao11 t300.length co11, .int .i64 t303, .int .i64 t304, .int .i64 t305, .int .u64 t306, .int .u64 t307, .int .u64 t308, .bool false]) ?_ 14 _ rfl; (with_reducible repeat (first | refine blk_drewN ?_ _ | refine blk_drew ?_ | refine blk_alloc ?_ _)); refine blk_put (cs := #[.int .i64 t293, .int .i64 t294, .int .i64 t295, .int .i64 t296, .int .i64 t297, .int .i64 t298, .int .i64 t299, .slice Ao11 t300.length co11, .int .i64 t303, .int .i64 t304, .int .i64 t305, .int .u64 t306, .int .u64 t307, .int .u64 0, .bool false]) ?_ 13 _ rfl; (with_reducible repeat (first | refine blk_drewN ?_ _ | refine blk_drew ?_ | refine blk_alloc ?_ _)); refine blk_put (cs := #[.int .i64 t293, .int .i64 t294, .int .i64 t295, .int .i64 t296, .int .i64 t297, .int .i64 t298, .int .i64 t299, .slice Ao11 t300.length co11, .int .i64 t303, .int .i64 t304, .int .i64 t305, .int .u64 t306, .int .u64 0, .int .u64 0, .bool false]) ?_ 12 _ rfl; (with_reducible repeat (first | refine blk_drewN ?_ _ | refine blk_drew ?_ | refine blk_alloc ?_ _)); refine blk_put (cs := #[.int .i64 t293, .int .i64 t294, .int .i64 t295, .int .i64 t296, .int .i64 t297, .int .i64 t298, .int .i64 t299, .slice Ao11 t300.length co11, .int .i64 t303, .int .i64 t304, .int .i64 t305, .int .u64 0, .int .u64 0, .int .u64 0, .bool false]) ?_ 11 _ rfl; (with_reducible repeat (first | refine blk_drewN ?_ _ | refine blk_drew ?_ | refine blk_alloc ?_ _)); refine blk_put (cs := #[.int .i64 t293, .int .i64 t294, .int .i64 t295, .int .i64 t296, .int .i64 t297, .int .i64 t298, .int .i64 t299, .slice Ao11 t300.length co11, .int .i64 t303, .int .i64 t304, .int .i64 0, .int .u64 0, .int .u64 0, .int .u64 0, .bool false]) ?_ 10 _ rfl; (with_reducible repeat (first | refine blk_drewN ?_ _ | refine blk_drew ?_ | refine blk_alloc ?_ _)); refine blk_put (cs := #[.int .i64 t293, .int .i64 t294, .int .i64 t295, .int .i64 t296, .int .i64 t297, .int .i64 t298, .int .i64 t299, .slice Ao11 t300.length co11, .int .i64 t303, .int .i64 0, .int .i64 0, .int .u64 0, .int .u64 0, .int .u64 0, .bool false]) ?_ 9 _ rfl; (with_reducible repeat (first | refine blk_drewN ?_ _ | refine blk_drew ?_ | refine blk_alloc ?_ _)); refine blk_put (cs := #[.int .i64 t293, .int .i64 t294, .int .i64 t295, .int .i64 t296, .int .i64 t297, .int .i64 t298, .int .i64 t299, .slice Ao11 t300.length co11, .int .i64 0, .int .i64 0, .int .i64 0, .int .u64 0, .int .u64 0, .int .u64 0, .bool false]) ?_ 8 _ rfl; (with_reducible repeat (first | refine blk_drewN ?_ _ | refine blk_drew ?_ | refine blk_alloc ?_ _)); refine blk_put (cs := #[.int .i64 t293, .int .i64 t294, .int .i64 t295, .int .i64 t296, .int .i64 t297, .int .i64 t298, .int .i64 t299, .slice none 0 0, .int .i64 0, .int .i64 0, .int .i64 0, .int .u64 0, .int .u64 0, .int .u64 0, .bool false]) ?_ 7 _ rfl; (with_reducible repeat (first | refine blk_drewN ?_ _ | refine blk_drew ?_ | refine blk_alloc ?_ _)); refine blk_put (cs := #[.int .i64 t293, .int .i64 t294, .int .i64 t295, .int .i64 t296, .int .i64 t297, .int .i64 t298, .int .i64 0, .slice none 0 0, .int .i64 0, .int .i64 0, .int .i64 0, .int .u64 0, .int .u64 0, .int .u64 0, .bool false]) ?_ 6 _ rfl; (with_reducible repeat (first | refine blk_drewN ?_ _ | refine blk_drew ?_ | refine blk_alloc ?_ _)); refine blk_put (cs := #[.int .i64 t293, .int .i64 t294, .int .i64 t295, .int .i64 t296, .int .i64 t297, .int .i64 0, .int .i64 0, .slice none 0 0, .int .i64 0, .int .i64 0, .int .i64 0, .int .u64 0, .int .u64 0, .int .u64 0, .bool false]) ?_ 5 _ rfl; (with_reducible repeat (first | refine blk_drewN ?_ _ | refine blk_drew ?_ | refine blk_alloc ?_ _)); refine blk_put (cs := #[.int .i64 t293, .int .i64 t294, .int .i64 t295, .int .i64 t296, .int .i64 0, .int .i64 0, .int .i64 0, .slice none 0 0, .int .i64 0, .int .i64 0, .int .i64 0, .int .u64 0, .int .u64 0, .int .u64 0, .bool false]) ?_ 4 _ rfl; (with_reducible repeat (first | refine blk_drewN ?_ _ | refine blk_drew ?_ | refine blk_alloc ?_ _)); refine blk_put (cs := #[.int .i64 t293, .int .i64 t294, .int .i64 t295, .int .i64 0, .int .i64 0, .int .i64 0, .int .i64 0, .slice none 0 0, .int .i64 0, .int .i64 0, .int .i64 0, .int .u64 0, .int .u64 0, .int .u64 0, .bool false]) ?_ 3 _ rfl; (with_reducible repeat (first | refine blk_drewN ?_ _ | refine blk_drew ?_ | refine blk_alloc ?_ _)); refine blk_put (cs := #[.int .i64 t293, .int .i64 t294, .int .i64 0, .int .i64 0, .int .i64 0, .int .i64 0, .int .i64 0, .slice none 0 0, .int .i64 0, .int .i64 0, .int .i64 0, .int .u64 0, .int .u64 0, .int .u64 0, .bool false]) ?_ 2 _ rfl; (with_reducible repeat (first | refine blk_drewN ?_ _ | refine blk_drew ?_ | refine blk_alloc ?_ _)); refine blk_put (cs := #[.int .i64 t293, .int .i64 0, .int .i64 0, .int .i64 0, .int .i64 0, .int .i64 0, .int .i64 0, .slice none 0 0, .int .i64 0, .int .i64 0, .int .i64 0, .int .u64 0, .int .u64 0, .int .u64 0, .bool false]) ?_ 1 _ rfl; (with_reducible repeat (first | refine blk_drewN ?_ _ | refine blk_drew ?_ | refine blk_alloc ?_ _)); refine blk_put (cs := #[.int .i64 0, .int .i64 0, .int .i64 0, .int .i64 0, .int .i64 0, .int .i64 0, .int .i64 0, .slice none 0 0, .int .i64 0, .int .i64 0, .int .i64 0, .int .u64 0, .int .u64 0, .int .u64 0, .bool false]) ?_ 0 _ rfl; (with_reducible repeat (first | refine blk_drewN ?_ _ | refine blk_drew ?_ | refine blk_alloc ?_ _)); exact BK310.out) hb); have n4_ := Aside0.mk (below_step (by repeat (first | (with_reducible first | exact HB.out | apply below_alloc | apply pw_below_drewN | apply below_drew1 | refine below_set ?_ GE292.out | refine below_set ?_ GE310.out) | exact HB.out)) hb); clear HO302; clear BK292; clear BK310; clear HB; have HO302 := n0_; have HO313 := n1_; have BK292 := n2_; have BK310 := n3_; have HB := n4_; clear n0_ n1_ n2_ n3_ n4_; clear hb ho13; have hcz14_0 : w12.cell? ⟨gb310, 0, none⟩ = some (.int .i64 t293) := (blk_cell BK310.out 0).trans rfl; have hcz14_1 : w12.cell? ⟨gb310, 1, none⟩ = some (.int .i64 t294) := (blk_cell BK310.out 1).trans rfl; have hcz14_2 : w12.cell? ⟨gb310, 2, none⟩ = some (.int .i64 t295) := (blk_cell BK310.out 2).trans rfl; have hcz14_3 : w12.cell? ⟨gb310, 3, none⟩ = some (.int .i64 t296) := (blk_cell BK310.out 3).trans rfl; have hcz14_4 : w12.cell? ⟨gb310, 4, none⟩ = some (.int .i64 t297) := (blk_cell BK310.out 4).trans rfl; have hcz14_5 : w12.cell? ⟨gb310, 5, none⟩ = some (.int .i64 t298) := (blk_cell BK310.out 5).trans rfl; have hcz14_6 : w12.cell? ⟨gb310, 6, none⟩ = some (.int .i64 t299) := (blk_cell BK310.out 6).trans rfl; have hcz14_7 : w12.cell? ⟨gb310, 7, none⟩ = some (.slice Ao11 t300.length co11) := (blk_cell BK310.out 7).trans rfl; have hcz14_8 : w12.cell? ⟨gb310, 8, none⟩ = some (.int .i64 t303) := (blk_cell BK310.out 8).trans rfl; have hcz14_9 : w12.cell? ⟨gb310, 9, none⟩ = some (.int .i64 t304) := (blk_cell BK310.out 9).trans rfl; have hcz14_10 : w12.cell? ⟨gb310, 10, none⟩ = some (.int .i64 t305) := (blk_cell BK310.out 10).trans rfl; have hcz14_11 : w12.cell? ⟨gb310, 11, none⟩ = some (.int .u64 t306) := (blk_cell BK310.out 11).trans rfl; have hcz14_12 : w12.cell? ⟨gb310, 12, none⟩ = some (.int .u64 t307) := (blk_cell BK310.out 12).trans rfl; have hcz14_13 : w12.cell? ⟨gb310, 13, none⟩ = some (.int .u64 t308) := (blk_cell BK310.out 13).trans rfl; have hcz14_14 : w12.cell? ⟨gb310, 14, none⟩ = some (.bool t309) := (blk_cell BK310.out 14).trans rfl; have hfz14_0 := blk_frozen BK310.out 0; have hfz14_1 := blk_frozen BK310.out 1; have hfz14_2 := blk_frozen BK310.out 2; have hfz14_3 := blk_frozen BK310.out 3; have hfz14_4 := blk_frozen BK310.out 4; have hfz14_5 := blk_frozen BK310.out 5; have hfz14_6 := blk_frozen BK310.out 6; have hfz14_7 := blk_frozen BK310.out 7; have hfz14_8 := blk_frozen BK310.out 8; have hfz14_9 := blk_frozen BK310.out 9; have hfz14_10 := blk_frozen BK310.out 10; have hfz14_11 := blk_frozen BK310.out 11; have hfz14_12 := blk_frozen BK310.out 12; have hfz14_13 := blk_frozen BK310.out 13; have hfz14_14 := blk_frozen BK310.out 14) | ((with_reducible refine gate_builtin (b := .append) (xs := #[.tmp 14, .tmp 17]) rfl ?_); at_builtin; refine Kd.R_append_rows (Kd.int .u64) (w0 := w) w.heap.size rfl (.tmp 14) (.tmp 17) 39 40 (.int .u64 0) 8 rfl Try.underlying39 info40 rfl (by decide) (by omega) v312 y311 t300 _ _ _ (fun k_ => some k_ ≠ (.slice Ao11 t300.length co11 : Value).ownBlock) (fun _ => False) rfl rfl ?aO ?aR (fun _ _ h => h) (fun _ h => h.elim) ?aF ?aB ?aS ?aL ?_; (case aR => repeat (first | exact (Kd.R_reads' HO302.out).2.2 | (with_reducible refine Kd.C_alloc ?_ _) | (with_reducible refine Kd.C_drewN ?_ _) | (with_reducible refine Kd.C_drew ?_))); (case aB => exact (by repeat (first | (with_reducible first | exact HB.out | apply below_alloc | apply pw_below_drewN | apply below_drew1 | refine below_set ?_ GE292.out | refine below_set ?_ GE310.out) | exact HB.out))); (case aF => exact (fun k_ hk => Kd.fresh' (Kd.R_lt (by (with_reducible repeat (first | apply Kd.R_alloc | apply Kd.R_drewN | apply Kd.R_drew)); exact HO302.out)) k_ hk)); (case aO => exact (by (with_reducible repeat (first | apply Kd.R_alloc | apply Kd.R_drewN | apply Kd.R_drew)); exact Kd.R_mono HO313.out (fun _ hk => hk.2))); (case aS => exact (below_size (by repeat (first | (with_reducible first | exact HB.out | apply below_alloc | apply pw_below_drewN | apply below_drew1 | refine below_set ?_ GE292.out | refine below_set ?_ GE310.out) | exact HB.out)))); (case aL => have := LMc4.out; omega); intro v315 w15 ho hb hg hat; rw [← Ny314.out] at ho; have n0_ := Aside0.mk (blk_grown (g := gb292) (o := .cells #[.int .i64 a0_0, .int .i64 a0_1, .int .i64 a0_2, .int .i64 a0_3, .int .i64 a0_4, .int .i64 a0_5, .int .i64 a0_6] 23 (0, 0)) (by (with_reducible repeat (first | refine blk_drewN ?_ _ | refine blk_drew ?_ | refine blk_alloc ?_ _)); exact BK292.out) hg (Kd.R_ne HO313.out BK292.out (by decide))); have n1_ := Aside0.mk (Kd.R_after (ok := (fun _ => True)) (by (with_reducible repeat (first | apply Kd.R_alloc | apply Kd.R_drewN | apply Kd.R_drew)); exact HO302.out) hg hat); have n2_ := Aside0.mk (blk_grown (g := gb310) (o := .cells #[.int .i64 t293, .int .i64 t294, .int .i64 t295, .int .i64 t296, .int .i64 t297, .int .i64 t298, .int .i64 t299, .slice Ao11 t300.length co11, .int .i64 t303, .int .i64 t304, .int .i64 t305, .int .u64 t306, .int .u64 t307, .int .u64 t308, .bool t309] 50 (0, 0)) (by (with_reducible repeat (first | refine blk_drewN ?_ _ | refine blk_drew ?_ | refine blk_alloc ?_ _)); exact BK310.out) hg (Kd.R_ne HO313.out BK310.out (by decide))); have n3_ := Aside0.mk (hb); have n4_ := Aside0.mk (ho); clear BK292; clear HO302; clear BK310; clear HB; clear HO313; have BK292 := n0_; have HO302 := n1_; have BK310 := n2_; have HB := n3_; have HO316 := n4_; clear n0_ n1_ n2_ n3_ n4_; clear ho hb hg hat))
  go_loopg [7] k (fun kq v7 w' => ∃ (x6_1 : List Int) (x7_1 : Int), v7 = .int .i64 x7_1 ∧ Aside0 (stepstoneref11_Lay.l0 kq l1 x6_1 x7_1 a0_0 a0_1 a0_2 a0_3 a0_4 a0_5 a0_6 = some r) ∧ Aside0 (kq ≤ k) ∧ Aside0 (Kd.R (Kd.int .u64) 40 w' w.heap.size (fun k_ => some k_ ≠ ((.slice Ao11 t300.length co11) : Value).ownBlock) v315 x6_1) ∧ Aside0 (Kd.R (Kd.int .u64) 40 w' w.heap.size (fun k_ => some k_ ≠ (v315 : Value).ownBlock) (.slice Ao11 t300.length co11) t300) ∧ Aside0 (w'.heap[gb292]? = some (.cells #[.int .i64 a0_0, .int .i64 a0_1, .int .i64 a0_2, .int .i64 a0_3, .int .i64 a0_4, .int .i64 a0_5, .int .i64 a0_6] 23 (0, 0))) ∧ Aside0 (w'.heap[gb310]? = some (.cells #[.int .i64 t293, .int .i64 t294, .int .i64 t295, .int .i64 t296, .int .i64 t297, .int .i64 t298, .int .i64 t299, (.slice Ao11 t300.length co11), .int .i64 t303, .int .i64 t304, .int .i64 t305, .int .u64 t306, .int .u64 t307, .int .u64 t308, .bool t309] 50 (0, 0))) ∧ Aside0 (Below w.heap.size w w'))
  case atStart => exact ⟨(y314), (0), (by first | rfl | (simp; done) | (simp [*]; done)), H', ⟨Nat.le_refl _⟩, ⟨by (with_reducible repeat (first | apply Kd.R_alloc | apply Kd.R_drewN | apply Kd.R_drew)); exact HO316.out⟩, ⟨by (with_reducible repeat (first | apply Kd.R_alloc | apply Kd.R_drewN | apply Kd.R_drew)); exact Kd.R_mono HO302.out (fun _ hk => hk.2)⟩, ⟨by (with_reducible repeat (first | refine blk_drewN ?_ _ | refine blk_drew ?_ | refine blk_alloc ?_ _)); exact BK292.out⟩, ⟨by (with_reducible repeat (first | refine blk_drewN ?_ _ | refine blk_drew ?_ | refine blk_alloc ?_ _)); exact BK310.out⟩, ⟨by repeat (first | (with_reducible first | exact HB.out | apply below_alloc | apply pw_below_drewN | apply below_drew1 | refine below_set ?_ GE292.out | refine below_set ?_ GE310.out) | exact HB.out)⟩⟩
  case round =>
   clear H'
   try clear c1
   try clear p2
   try clear c3
   try clear c4
   try clear c5
   try clear c9
   try clear hcz10_0
   try clear hcz10_1
   try clear hcz10_10
   try clear hcz10_11
   try clear hcz10_12
   try clear hcz10_13
   try clear hcz10_14
   try clear hcz10_2
   try clear hcz10_3
   try clear hcz10_4
   try clear hcz10_5
   try clear hcz10_6
   try clear hcz10_7
   try clear hcz10_8
   try clear hcz10_9
   try clear hcz14_0
   try clear hcz14_1
   try clear hcz14_10
   try clear hcz14_11
   try clear hcz14_12
   try clear hcz14_13
   try clear hcz14_14
   try clear hcz14_2
   try clear hcz14_3
   try clear hcz14_4
   try clear hcz14_5
   try clear hcz14_6
   try clear hcz14_7
   try clear hcz14_8
   try clear hcz14_9
   try clear hcz6_0
   try clear hcz6_1
   try clear hcz6_2
   try clear hcz6_3
   try clear hcz6_4
   try clear hcz6_5
   try clear hcz6_6
   try clear hfz10_0
   try clear hfz10_1
   try clear hfz10_10
   try clear hfz10_11
   try clear hfz10_12
   try clear hfz10_13
   try clear hfz10_14
   try clear hfz10_2
   try clear hfz10_3
   try clear hfz10_4
   try clear hfz10_5
   try clear hfz10_6
   try clear hfz10_7
   try clear hfz10_8
   try clear hfz10_9
   try clear hfz14_0
   try clear hfz14_1
   try clear hfz14_10
   try clear hfz14_11
   try clear hfz14_12
   try clear hfz14_13
   try clear hfz14_14
   try clear hfz14_2
   try clear hfz14_3
   try clear hfz14_4
   try clear hfz14_5
   try clear hfz14_6
   try clear hfz14_7
   try clear hfz14_8
   try clear hfz14_9
   try clear hfz6_0
   try clear hfz6_1
   try clear hfz6_2
   try clear hfz6_3
   try clear hfz6_4
   try clear hfz6_5
   try clear hfz6_6
   obtain ⟨x6_1, x7_1, rfl, HA, HK1, HO_6, HO_311007, BK292, BK310, HB⟩ := hrel
   cases gk with
   | zero => exact absurd HA.out (by simp [stepstoneref11_Lay.l0])
   | succ k1 =>
    have H := HA.out
    clear HA
    simp only [stepstoneref11_Lay.l0] at H
    by_cases c16 : x7_1 < a0_3
    ·rw [if_pos c16] at H
     have c16b0 : decide (x7_1 < a0_3) = true := decide_eq_true c16
     clear c16
     replace H := Option.bind_eq_some_iff.mp H
     obtain ⟨t317, A170, H⟩ := H
     replace H : ((stepstoneref11_behind.f k1 l1 (-1) x7_1).bind fun t318 => (if 0 ≤ t317 then (if t317 < (x6_1.length : Int) then (stepstoneref11_Lay.l0 k1 l1 (x6_1.set (t317 : Int).toNat t318) (wrap64 (x7_1 + 1)) a0_0 a0_1 a0_2 a0_3 a0_4 a0_5 a0_6) else (none)) else (none))) = some r := H
     have A17 := Aside0.mk A170
     clear A170
     replace H := Option.bind_eq_some_iff.mp H
     obtain ⟨t318, A180, H⟩ := H
     replace H : (if 0 ≤ t317 then (if t317 < (x6_1.length : Int) then (stepstoneref11_Lay.l0 k1 l1 (x6_1.set (t317 : Int).toNat t318) (wrap64 (x7_1 + 1)) a0_0 a0_1 a0_2 a0_3 a0_4 a0_5 a0_6) else (none)) else (none)) = some r := H
     have A18 := Aside0.mk A180
     clear A180
     by_cases c19 : 0 ≤ t317
     ·rw [if_pos c19] at H
      have c19b0 : decide (0 ≤ t317) = true := decide_eq_true c19
      clear c19
      by_cases c20 : t317 < (x6_1.length : Int)
      ·rw [if_pos c20] at H
       have c20b0 : decide (t317 < (x6_1.length : Int)) = true := decide_eq_true c20
       clear c20
       obtain ⟨y319, hy319⟩ : ∃ y_ : List Int, y_ = (x6_1.set (t317 : Int).toNat t318) := ⟨_, rfl⟩
       replace H : (stepstoneref11_Lay.l0 k1 l1 y319 (wrap64 (x7_1 + 1)) a0_0 a0_1 a0_2 a0_3 a0_4 a0_5 a0_6) = some r := by first | (rw [hy319]; with_reducible exact H) | (have H2_ := (Option.bind_some _ _).symm.trans H; rw [hy319]; with_reducible exact H2_) | (have H2_ := (Option.bind_some _ _).symm.trans H; with_reducible exact H2_) | with_reducible exact H | (rw [hy319]; exact H) | exact H
       have Ny319 := Aside0.mk hy319
       clear hy319
       have H' := Aside0.mk H
       clear H
       have hnb22 := NB292_310.out
       have hnc22 := NB310_292.out
       have hcz23_0 : wr.cell? ⟨gb292, 0, none⟩ = some (.int .i64 a0_0) := (blk_cell BK292.out 0).trans rfl
       have hcz23_1 : wr.cell? ⟨gb292, 1, none⟩ = some (.int .i64 a0_1) := (blk_cell BK292.out 1).trans rfl
       have hcz23_2 : wr.cell? ⟨gb292, 2, none⟩ = some (.int .i64 a0_2) := (blk_cell BK292.out 2).trans rfl
       have hcz23_3 : wr.cell? ⟨gb292, 3, none⟩ = some (.int .i64 a0_3) := (blk_cell BK292.out 3).trans rfl
       have hcz23_4 : wr.cell? ⟨gb292, 4, none⟩ = some (.int .i64 a0_4) := (blk_cell BK292.out 4).trans rfl
       have hcz23_5 : wr.cell? ⟨gb292, 5, none⟩ = some (.int .i64 a0_5) := (blk_cell BK292.out 5).trans rfl
       have hcz23_6 : wr.cell? ⟨gb292, 6, none⟩ = some (.int .i64 a0_6) := (blk_cell BK292.out 6).trans rfl
       have hfz23_0 := blk_frozen BK292.out 0
       have hfz23_1 := blk_frozen BK292.out 1
       have hfz23_2 := blk_frozen BK292.out 2
       have hfz23_3 := blk_frozen BK292.out 3
       have hfz23_4 := blk_frozen BK292.out 4
       have hfz23_5 := blk_frozen BK292.out 5
       have hfz23_6 := blk_frozen BK292.out 6
       go_wp2_with (first | ((with_reducible refine gate_callee (f := 23) rfl ?_); refine goesL_ (some 29) rfl rfl Try.func23 (by kernel_rfl) rfl #[.agg #[.int .i64 a0_0, .int .i64 a0_1, .int .i64 a0_2, .int .i64 a0_3, .int .i64 a0_4, .int .i64 a0_5, .int .i64 a0_6], .int .i64 0, .int .i64 (wrap64 (6 + x7_1))] rfl (by (try simp only [List.map_toArray, List.map_cons, List.map_nil]); first | done | rfl | (simp only [List.length_drop, List.length_take]; rfl)) ?_; (with_reducible refine (stepstoneref04_Cell.calls a0_0 a0_1 a0_2 a0_3 a0_4 a0_5 a0_6 0 (wrap64 (6 + x7_1)) t317 _ A17.out).mono ?_); rintro e w24 ⟨rfl, hb⟩; refine ⟨_, rfl, ?_⟩; have n0_ := Aside0.mk (Kd.R_below (by (with_reducible repeat (first | apply Kd.R_alloc | apply Kd.R_drewN | apply Kd.R_drew)); exact HO_6.out) hb); have n1_ := Aside0.mk (Kd.R_below (by (with_reducible repeat (first | apply Kd.R_alloc | apply Kd.R_drewN | apply Kd.R_drew)); exact HO_311007.out) hb); have n2_ := Aside0.mk (blk_below (g := gb292) (o := .cells #[.int .i64 a0_0, .int .i64 a0_1, .int .i64 a0_2, .int .i64 a0_3, .int .i64 a0_4, .int .i64 a0_5, .int .i64 a0_6] 23 (0, 0)) (by (with_reducible repeat (first | refine blk_drewN ?_ _ | refine blk_drew ?_ | refine blk_alloc ?_ _)); exact BK292.out) hb); have n3_ := Aside0.mk (blk_below (g := gb310) (o := .cells #[.int .i64 t293, .int .i64 t294, .int .i64 t295, .int .i64 t296, .int .i64 t297, .int .i64 t298, .int .i64 t299, .slice Ao11 t300.length co11, .int .i64 t303, .int .i64 t304, .int .i64 t305, .int .u64 t306, .int .u64 t307, .int .u64 t308, .bool t309] 50 (0, 0)) (by (with_reducible repeat (first | refine blk_drewN ?_ _ | refine blk_drew ?_ | refine blk_alloc ?_ _)); exact BK310.out) hb); have n4_ := Aside0.mk (below_step (by repeat (first | (with_reducible first | exact HB.out | apply below_alloc | apply pw_below_drewN | apply below_drew1 | refine below_set ?_ GE292.out | refine below_set ?_ GE310.out) | exact HB.out)) hb); clear HO_6; clear HO_311007; clear BK292; clear BK310; clear HB; have HO_6 := n0_; have HO_311007 := n1_; have BK292 := n2_; have BK310 := n3_; have HB := n4_; clear n0_ n1_ n2_ n3_ n4_; (try clear hb); (try clear hb2); (try clear hk); (try clear hi)) | ((with_reducible refine gate_callee (f := 60) rfl ?_); refine goesL_ (some 32) rfl rfl Try.func60 (by kernel_rfl) rfl #[.slice A1 l1.length c1, .int .i64 (-1), .int .i64 x7_1] rfl (by (try simp only [List.map_toArray, List.map_cons, List.map_nil]); first | done | rfl | (simp only [List.length_drop, List.length_take]; rfl)) ?_; (with_reducible refine (stepstoneref11_behind.calls k1 _ _ l1 (-1) x7_1 t318 _ ?side1 ?side2 A18.out).mono ?_); (case side1 => repeat (first | exact (Kd.C_below HR1.out HB.out) | (with_reducible refine Kd.C_alloc ?_ _) | (with_reducible refine Kd.C_drewN ?_ _) | (with_reducible refine Kd.C_drew ?_))); (case side2 => exact HC1.out); rintro e w' ⟨rfl, ⟨nd, rfl⟩⟩; refine ⟨_, rfl, ?_⟩; (try (rw [drewN_self w24]; generalize hq_ : World.drewN w24 _ = w24; have n0_ : Aside0 (Kd.R (Kd.int .u64) 40 w24 w.heap.size (fun k_ => some k_ ≠ (v315 : Value).ownBlock) (.slice Ao11 t300.length co11) t300) := ⟨by rw [← hq_]; exact (by (with_reducible repeat (first | apply Kd.R_alloc | apply Kd.R_drewN | apply Kd.R_drew)); exact HO_311007.out)⟩; have n1_ : Aside0 (Kd.R (Kd.int .u64) 40 w24 w.heap.size (fun k_ => some k_ ≠ (.slice Ao11 t300.length co11 : Value).ownBlock) v315 x6_1) := ⟨by rw [← hq_]; exact (by (with_reducible repeat (first | apply Kd.R_alloc | apply Kd.R_drewN | apply Kd.R_drew)); exact HO_6.out)⟩; have n2_ : Aside0 (w24.heap[gb292]? = some (.cells #[.int .i64 a0_0, .int .i64 a0_1, .int .i64 a0_2, .int .i64 a0_3, .int .i64 a0_4, .int .i64 a0_5, .int .i64 a0_6] 23 (0, 0))) := ⟨by rw [← hq_]; exact (by (with_reducible repeat (first | refine blk_drewN ?_ _ | refine blk_drew ?_ | refine blk_alloc ?_ _)); exact BK292.out)⟩; have n3_ : Aside0 (w24.heap[gb310]? = some (.cells #[.int .i64 t293, .int .i64 t294, .int .i64 t295, .int .i64 t296, .int .i64 t297, .int .i64 t298, .int .i64 t299, .slice Ao11 t300.length co11, .int .i64 t303, .int .i64 t304, .int .i64 t305, .int .u64 t306, .int .u64 t307, .int .u64 t308, .bool t309] 50 (0, 0))) := ⟨by rw [← hq_]; exact (by (with_reducible repeat (first | refine blk_drewN ?_ _ | refine blk_drew ?_ | refine blk_alloc ?_ _)); exact BK310.out)⟩; have n4_ : Aside0 (Below w.heap.size w w24) := ⟨by rw [← hq_]; exact (by repeat (first | (with_reducible first | exact HB.out | apply below_alloc | apply pw_below_drewN | apply below_drew1 | refine below_set ?_ GE292.out | refine below_set ?_ GE310.out) | exact HB.out))⟩; clear HO_311007 HO_6 BK292 BK310 HB hq_; have HO_311007 := n0_; have HO_6 := n1_; have BK292 := n2_; have BK310 := n3_; have HB := n4_; clear n0_ n1_ n2_ n3_ n4_)); have p21 : 0 ≤ (t317 : Int) := of_decide_eq_true (by first | (with_reducible assumption) | assumption); have q21 : (t317 : Int) < ((x6_1.length : Int) : Int) := of_decide_eq_true (by first | (with_reducible assumption) | assumption); obtain ⟨go21, co21, eo21, gb21, gl21, cl21, HG21⟩ := Kd.R_form HO_6.out (by omega); (first | cases eo21 | (injection eo21 with ea_ en_ ec_; (first | subst ea_ | (injection ea_ with ea_; subst ea_)); subst ec_; clear en_)); have GB21 := Aside0.mk gb21; have GG21 := Aside0.mk HG21; clear gb21 gl21 HG21; obtain ⟨hx21_0, hf21_0⟩ := Kd.R_celln 0 HO_6.out (t317 : Int) p21 q21; replace p21 := eq_true p21; replace q21 := eq_true q21; obtain ⟨hy25_, hz25_⟩ := Kd.R_celln 0 HO_6.out (t317 : Int) (of_decide_eq_true (by first | (with_reducible assumption) | assumption)) (of_decide_eq_true (by first | (with_reducible assumption) | assumption)); have HP25 := Kd.R_putg HO_6.out (t317 : Int) t318) | ((with_reducible refine gate_store (t := 40) (p := 33) rfl ?_); refine store_event (t := 40) (p := 33) (v := ?vo_w26) (w1 := (w24.setCell ⟨go21, (t317 : Int).toNat, none⟩ (.int .u64 t318))) ?hg ?ho ?hn ?hr ?_; (case ho => rfl); (case hg => rfl); (case hn => rfl); (case hr => first | (go_simp; done) | (go_simp; rfl)); intro w26 hw; have hg : w24.grownBy w26 (some go21) := (by rw [hw]; exact HP25.2); have hp_ : Kd.R (Kd.int .u64) 40 w26 w.heap.size (fun k_ => some k_ ≠ (.slice Ao11 t300.length co11 : Value).ownBlock) (.slice (some ⟨go21, 0, none⟩) x6_1.length co21) y319 := (by rw [hw, Ny319.out]; exact HP25.1); clear HP25; have n0_ := Aside0.mk (hp_); have n1_ := Aside0.mk (Kd.R_after (v := (.slice (some ⟨go21, 0, none⟩) x6_1.length co21)) (v1 := (.slice (some ⟨go21, 0, none⟩) x6_1.length co21)) (ok := (fun _ => True)) (by (with_reducible repeat (first | apply Kd.R_alloc | apply Kd.R_drewN | apply Kd.R_drew)); exact Kd.R_mono HO_311007.out (fun _ hk => ⟨trivial, hk⟩)) hg (.inl rfl)); have n2_ := Aside0.mk (blk_grown (g := gb292) (o := .cells #[.int .i64 a0_0, .int .i64 a0_1, .int .i64 a0_2, .int .i64 a0_3, .int .i64 a0_4, .int .i64 a0_5, .int .i64 a0_6] 23 (0, 0)) (by (with_reducible repeat (first | refine blk_drewN ?_ _ | refine blk_drew ?_ | refine blk_alloc ?_ _)); exact BK292.out) hg (Kd.R_ne HO_6.out BK292.out (by decide))); have n3_ := Aside0.mk (blk_grown (g := gb310) (o := .cells #[.int .i64 t293, .int .i64 t294, .int .i64 t295, .int .i64 t296, .int .i64 t297, .int .i64 t298, .int .i64 t299, .slice Ao11 t300.length co11, .int .i64 t303, .int .i64 t304, .int .i64 t305, .int .u64 t306, .int .u64 t307, .int .u64 t308, .bool t309] 50 (0, 0)) (by (with_reducible repeat (first | refine blk_drewN ?_ _ | refine blk_drew ?_ | refine blk_alloc ?_ _)); exact BK310.out) hg (Kd.R_ne HO_6.out BK310.out (by decide))); have n4_ := Aside0.mk ((by rw [hw]; exact below_set (HB.out) GB21.out : Below w.heap.size w w26)); clear HO_6; clear HO_311007; clear BK292; clear BK310; clear HB; have HO_6 := n0_; have HO_311007 := n1_; have BK292 := n2_; have BK310 := n3_; have HB := n4_; clear n0_ n1_ n2_ n3_ n4_; clear hg hw hp_))
       go_roundg k1
       case measure => have := HK1.out; omega
       case rel => exact ⟨(y319), (wrap64 (x7_1 + 1)), (by first | rfl | (simp; done) | (simp [*]; done)), H', ⟨by have := HK1.out; omega⟩, ⟨by (with_reducible repeat (first | apply Kd.R_alloc | apply Kd.R_drewN | apply Kd.R_drew)); exact HO_6.out⟩, ⟨by (with_reducible repeat (first | apply Kd.R_alloc | apply Kd.R_drewN | apply Kd.R_drew)); exact Kd.R_mono HO_311007.out (fun _ hk => hk.2)⟩, ⟨by (with_reducible repeat (first | refine blk_drewN ?_ _ | refine blk_drew ?_ | refine blk_alloc ?_ _)); exact BK292.out⟩, ⟨by (with_reducible repeat (first | refine blk_drewN ?_ _ | refine blk_drew ?_ | refine blk_alloc ?_ _)); exact BK310.out⟩, ⟨by repeat (first | (with_reducible first | exact HB.out | apply below_alloc | apply pw_below_drewN | apply below_drew1 | refine below_set ?_ GE292.out | refine below_set ?_ GE310.out) | exact HB.out)⟩⟩
      ·rw [if_neg c20] at H
       exact absurd H (by simp)
     ·rw [if_neg c19] at H
      exact absurd H (by simp)
    ·rw [if_neg c16] at H
     have c16b0 : decide (x7_1 < a0_3) = false := decide_eq_false c16
     clear c16
     have H' := Aside0.mk H
     clear H
     have hnb27 := NB292_310.out
     have hnc27 := NB310_292.out
     have hcz28_0 : wr.cell? ⟨gb292, 0, none⟩ = some (.int .i64 a0_0) := (blk_cell BK292.out 0).trans rfl
     have hcz28_1 : wr.cell? ⟨gb292, 1, none⟩ = some (.int .i64 a0_1) := (blk_cell BK292.out 1).trans rfl
     have hcz28_2 : wr.cell? ⟨gb292, 2, none⟩ = some (.int .i64 a0_2) := (blk_cell BK292.out 2).trans rfl
     have hcz28_3 : wr.cell? ⟨gb292, 3, none⟩ = some (.int .i64 a0_3) := (blk_cell BK292.out 3).trans rfl
     have hcz28_4 : wr.cell? ⟨gb292, 4, none⟩ = some (.int .i64 a0_4) := (blk_cell BK292.out 4).trans rfl
     have hcz28_5 : wr.cell? ⟨gb292, 5, none⟩ = some (.int .i64 a0_5) := (blk_cell BK292.out 5).trans rfl
     have hcz28_6 : wr.cell? ⟨gb292, 6, none⟩ = some (.int .i64 a0_6) := (blk_cell BK292.out 6).trans rfl
     have hfz28_0 := blk_frozen BK292.out 0
     have hfz28_1 := blk_frozen BK292.out 1
     have hfz28_2 := blk_frozen BK292.out 2
     have hfz28_3 := blk_frozen BK292.out 3
     have hfz28_4 := blk_frozen BK292.out 4
     have hfz28_5 := blk_frozen BK292.out 5
     have hfz28_6 := blk_frozen BK292.out 6
     go_wp2
     go_loopg [8] k1 (fun kq v8 w' => ∃ (x6_2 : List Int) (x8_2 : Int), v8 = .int .i64 x8_2 ∧ Aside0 (stepstoneref11_Lay.l1 kq l1 x6_2 x8_2 a0_0 a0_1 a0_2 a0_3 a0_4 a0_5 a0_6 = some r) ∧ Aside0 (kq ≤ k1) ∧ Aside0 (Kd.R (Kd.int .u64) 40 w' w.heap.size (fun k_ => some k_ ≠ ((.slice Ao11 t300.length co11) : Value).ownBlock) v315 x6_2) ∧ Aside0 (Kd.R (Kd.int .u64) 40 w' w.heap.size (fun k_ => some k_ ≠ (v315 : Value).ownBlock) (.slice Ao11 t300.length co11) t300) ∧ Aside0 (w'.heap[gb292]? = some (.cells #[.int .i64 a0_0, .int .i64 a0_1, .int .i64 a0_2, .int .i64 a0_3, .int .i64 a0_4, .int .i64 a0_5, .int .i64 a0_6] 23 (0, 0))) ∧ Aside0 (w'.heap[gb310]? = some (.cells #[.int .i64 t293, .int .i64 t294, .int .i64 t295, .int .i64 t296, .int .i64 t297, .int .i64 t298, .int .i64 t299, (.slice Ao11 t300.length co11), .int .i64 t303, .int .i64 t304, .int .i64 t305, .int .u64 t306, .int .u64 t307, .int .u64 t308, .bool t309] 50 (0, 0))) ∧ Aside0 (Below w.heap.size w w'))
     case atStart => exact ⟨(x6_1), (0), (by first | rfl | (simp; done) | (simp [*]; done)), H', ⟨Nat.le_refl _⟩, ⟨by (with_reducible repeat (first | apply Kd.R_alloc | apply Kd.R_drewN | apply Kd.R_drew)); exact HO_6.out⟩, ⟨by (with_reducible repeat (first | apply Kd.R_alloc | apply Kd.R_drewN | apply Kd.R_drew)); exact HO_311007.out⟩, ⟨by (with_reducible repeat (first | refine blk_drewN ?_ _ | refine blk_drew ?_ | refine blk_alloc ?_ _)); exact BK292.out⟩, ⟨by (with_reducible repeat (first | refine blk_drewN ?_ _ | refine blk_drew ?_ | refine blk_alloc ?_ _)); exact BK310.out⟩, ⟨by repeat (first | (with_reducible first | exact HB.out | apply below_alloc | apply pw_below_drewN | apply below_drew1 | refine below_set ?_ GE292.out | refine below_set ?_ GE310.out) | exact HB.out)⟩⟩
     case round =>
      clear H'
      try clear c1
      try clear c2
      try clear p2
      try clear q2
      try clear hx2
      try clear hf2
      try clear c3
      try clear c4
      try clear c5
      try clear c6
      try clear p6
      try clear c9
      try clear c16
      try clear c16b0
      try clear c19
      try clear c19b0
      try clear c20
      try clear c20b0
      try clear p21
      try clear q21
      try clear hx21
      try clear hf21
      try clear c22
      try clear c23
      try clear c27
      try clear hcz10_0
      try clear hcz10_1
      try clear hcz10_10
      try clear hcz10_11
      try clear hcz10_12
      try clear hcz10_13
      try clear hcz10_14
      try clear hcz10_2
      try clear hcz10_3
      try clear hcz10_4
      try clear hcz10_5
      try clear hcz10_6
      try clear hcz10_7
      try clear hcz10_8
      try clear hcz10_9
      try clear hcz14_0
      try clear hcz14_1
      try clear hcz14_10
      try clear hcz14_11
      try clear hcz14_12
      try clear hcz14_13
      try clear hcz14_14
      try clear hcz14_2
      try clear hcz14_3
      try clear hcz14_4
      try clear hcz14_5
      try clear hcz14_6
      try clear hcz14_7
      try clear hcz14_8
      try clear hcz14_9
      try clear hcz23_0
      try clear hcz23_1
      try clear hcz23_2
      try clear hcz23_3
      try clear hcz23_4
      try clear hcz23_5
      try clear hcz23_6
      try clear hcz28_0
      try clear hcz28_1
      try clear hcz28_2
      try clear hcz28_3
      try clear hcz28_4
      try clear hcz28_5
      try clear hcz28_6
      try clear hcz6_0
      try clear hcz6_1
      try clear hcz6_2
      try clear hcz6_3
      try clear hcz6_4
      try clear hcz6_5
      try clear hcz6_6
      try clear hfz10_0
      try clear hfz10_1
      try clear hfz10_10
      try clear hfz10_11
      try clear hfz10_12
      try clear hfz10_13
      try clear hfz10_14
      try clear hfz10_2
      try clear hfz10_3
      try clear hfz10_4
      try clear hfz10_5
      try clear hfz10_6
      try clear hfz10_7
      try clear hfz10_8
      try clear hfz10_9
      try clear hfz14_0
      try clear hfz14_1
      try clear hfz14_10
      try clear hfz14_11
      try clear hfz14_12
      try clear hfz14_13
      try clear hfz14_14
      try clear hfz14_2
      try clear hfz14_3
      try clear hfz14_4
      try clear hfz14_5
      try clear hfz14_6
      try clear hfz14_7
      try clear hfz14_8
      try clear hfz14_9
      try clear hfz23_0
      try clear hfz23_1
      try clear hfz23_2
      try clear hfz23_3
      try clear hfz23_4
      try clear hfz23_5
      try clear hfz23_6
      try clear hfz28_0
      try clear hfz28_1
      try clear hfz28_2
      try clear hfz28_3
      try clear hfz28_4
      try clear hfz28_5
      try clear hfz28_6
      try clear hfz6_0
      try clear hfz6_1
      try clear hfz6_2
      try clear hfz6_3
      try clear hfz6_4
      try clear hfz6_5
      try clear hfz6_6
      try clear hx21_0
      try clear p2
      try clear p21
      try clear q21
      obtain ⟨x6_2, x8_2, rfl, HA, HK2, HO_6, HO_311007, BK292, BK310, HB⟩ := hrel
      cases gk with
      | zero => exact absurd HA.out (by simp [stepstoneref11_Lay.l1])
      | succ k2 =>
       have H := HA.out
       clear HA
       simp only [stepstoneref11_Lay.l1] at H
       by_cases c29 : x8_2 < (l1.length : Int)
       ·rw [if_pos c29] at H
        have c29b0 : decide (x8_2 < (l1.length : Int)) = true := decide_eq_true c29
        clear c29
        by_cases c30 : 0 ≤ x8_2
        ·rw [if_pos c30] at H
         have c30b0 : decide (0 ≤ x8_2) = true := decide_eq_true c30
         clear c30
         replace H := Option.bind_eq_some_iff.mp H
         obtain ⟨t322, A310, H⟩ := H
         replace H : ((stepstoneref02_Taken.f 0).bind fun t323 => (if 0 ≤ t322 then (if t322 < (x6_2.length : Int) then ((stepstoneref04_Cell.f a0_0 a0_1 a0_2 a0_3 a0_4 a0_5 a0_6 (wrap64 (x8_2 + 1)) 1).bind fun t325 => (if 0 ≤ t325 then (if t325 < (x6_2.length : Int) then ((stepstoneref04_Cell.f a0_0 a0_1 a0_2 a0_3 a0_4 a0_5 a0_6 (wrap64 (x8_2 + 1)) 2).bind fun t327 => (if 0 ≤ t327 then (if t327 < (x6_2.length : Int) then ((some (((x6_2.set (t322 : Int).toNat t323).set (t325 : Int).toNat ((rd_T69 l1 x8_2).f0)).set (t327 : Int).toNat (IntKind.u64.wrap (2 * ((rd_T69 l1 x8_2).f1))) : List Int)).bind fun y328 => (if (rd_T69 l1 x8_2).f4 = true then ((stepstoneref04_Cell.f a0_0 a0_1 a0_2 a0_3 a0_4 a0_5 a0_6 (wrap64 (x8_2 + 1)) 2).bind fun t329 => (if 0 ≤ t329 then (if t329 < (x6_2.length : Int) then (stepstoneref11_Lay.j2 k2 l1 (y328.set (t329 : Int).toNat (IntKind.u64.wrap ((IntKind.u64.wrap (2 * ((rd_T69 l1 x8_2).f1))) + 1))) x8_2 a0_0 a0_1 a0_2 a0_3 a0_4 a0_5 a0_6 ((rd_T69 l1 x8_2).f0) ((rd_T69 l1 x8_2).f1) ((rd_T69 l1 x8_2).f2) ((rd_T69 l1 x8_2).f3) ((rd_T69 l1 x8_2).f4)) else (none)) else (none))) else (stepstoneref11_Lay.j2 k2 l1 y328 x8_2 a0_0 a0_1 a0_2 a0_3 a0_4 a0_5 a0_6 ((rd_T69 l1 x8_2).f0) ((rd_T69 l1 x8_2).f1) ((rd_T69 l1 x8_2).f2) ((rd_T69 l1 x8_2).f3) ((rd_T69 l1 x8_2).f4)))) else (none)) else (none))) else (none)) else (none))) else (none)) else (none))) = some r := H
         have A31 := Aside0.mk A310
         clear A310
         replace H := Option.bind_eq_some_iff.mp H
         obtain ⟨t323, A320, H⟩ := H
         replace H : (if 0 ≤ t322 then (if t322 < (x6_2.length : Int) then ((stepstoneref04_Cell.f a0_0 a0_1 a0_2 a0_3 a0_4 a0_5 a0_6 (wrap64 (x8_2 + 1)) 1).bind fun t325 => (if 0 ≤ t325 then (if t325 < (x6_2.length : Int) then ((stepstoneref04_Cell.f a0_0 a0_1 a0_2 a0_3 a0_4 a0_5 a0_6 (wrap64 (x8_2 + 1)) 2).bind fun t327 => (if 0 ≤ t327 then (if t327 < (x6_2.length : Int) then ((some (((x6_2.set (t322 : Int).toNat t323).set (t325 : Int).toNat ((rd_T69 l1 x8_2).f0)).set (t327 : Int).toNat (IntKind.u64.wrap (2 * ((rd_T69 l1 x8_2).f1))) : List Int)).bind fun y328 => (if (rd_T69 l1 x8_2).f4 = true then ((stepstoneref04_Cell.f a0_0 a0_1 a0_2 a0_3 a0_4 a0_5 a0_6 (wrap64 (x8_2 + 1)) 2).bind fun t329 => (if 0 ≤ t329 then (if t329 < (x6_2.length : Int) then (stepstoneref11_Lay.j2 k2 l1 (y328.set (t329 : Int).toNat (IntKind.u64.wrap ((IntKind.u64.wrap (2 * ((rd_T69 l1 x8_2).f1))) + 1))) x8_2 a0_0 a0_1 a0_2 a0_3 a0_4 a0_5 a0_6 ((rd_T69 l1 x8_2).f0) ((rd_T69 l1 x8_2).f1) ((rd_T69 l1 x8_2).f2) ((rd_T69 l1 x8_2).f3) ((rd_T69 l1 x8_2).f4)) else (none)) else (none))) else (stepstoneref11_Lay.j2 k2 l1 y328 x8_2 a0_0 a0_1 a0_2 a0_3 a0_4 a0_5 a0_6 ((rd_T69 l1 x8_2).f0) ((rd_T69 l1 x8_2).f1) ((rd_T69 l1 x8_2).f2) ((rd_T69 l1 x8_2).f3) ((rd_T69 l1 x8_2).f4)))) else (none)) else (none))) else (none)) else (none))) else (none)) else (none)) = some r := H
         have A32 := Aside0.mk A320
         clear A320
         by_cases c33 : 0 ≤ t322
         ·rw [if_pos c33] at H
          have c33b0 : decide (0 ≤ t322) = true := decide_eq_true c33
          clear c33
          by_cases c34 : t322 < (x6_2.length : Int)
          ·rw [if_pos c34] at H
           have c34b0 : decide (t322 < (x6_2.length : Int)) = true := decide_eq_true c34
           clear c34
           obtain ⟨y324, hy324⟩ : ∃ y_ : List Int, y_ = (x6_2.set (t322 : Int).toNat t323) := ⟨_, rfl⟩
           replace H : ((stepstoneref04_Cell.f a0_0 a0_1 a0_2 a0_3 a0_4 a0_5 a0_6 (wrap64 (x8_2 + 1)) 1).bind fun t325 => (if 0 ≤ t325 then (if t325 < (x6_2.length : Int) then ((stepstoneref04_Cell.f a0_0 a0_1 a0_2 a0_3 a0_4 a0_5 a0_6 (wrap64 (x8_2 + 1)) 2).bind fun t327 => (if 0 ≤ t327 then (if t327 < (x6_2.length : Int) then ((some ((y324.set (t325 : Int).toNat ((rd_T69 l1 x8_2).f0)).set (t327 : Int).toNat (IntKind.u64.wrap (2 * ((rd_T69 l1 x8_2).f1))) : List Int)).bind fun y328 => (if (rd_T69 l1 x8_2).f4 = true then ((stepstoneref04_Cell.f a0_0 a0_1 a0_2 a0_3 a0_4 a0_5 a0_6 (wrap64 (x8_2 + 1)) 2).bind fun t329 => (if 0 ≤ t329 then (if t329 < (x6_2.length : Int) then (stepstoneref11_Lay.j2 k2 l1 (y328.set (t329 : Int).toNat (IntKind.u64.wrap ((IntKind.u64.wrap (2 * ((rd_T69 l1 x8_2).f1))) + 1))) x8_2 a0_0 a0_1 a0_2 a0_3 a0_4 a0_5 a0_6 ((rd_T69 l1 x8_2).f0) ((rd_T69 l1 x8_2).f1) ((rd_T69 l1 x8_2).f2) ((rd_T69 l1 x8_2).f3) ((rd_T69 l1 x8_2).f4)) else (none)) else (none))) else (stepstoneref11_Lay.j2 k2 l1 y328 x8_2 a0_0 a0_1 a0_2 a0_3 a0_4 a0_5 a0_6 ((rd_T69 l1 x8_2).f0) ((rd_T69 l1 x8_2).f1) ((rd_T69 l1 x8_2).f2) ((rd_T69 l1 x8_2).f3) ((rd_T69 l1 x8_2).f4)))) else (none)) else (none))) else (none)) else (none))) = some r := by first | (rw [hy324]; with_reducible exact H) | (have H2_ := (Option.bind_some _ _).symm.trans H; rw [hy324]; with_reducible exact H2_) | (have H2_ := (Option.bind_some _ _).symm.trans H; with_reducible exact H2_) | with_reducible exact H | (rw [hy324]; exact H) | exact H
           have Ny324 := Aside0.mk hy324
           clear hy324
           replace H := Option.bind_eq_some_iff.mp H
           obtain ⟨t325, A360, H⟩ := H
           replace H : (if 0 ≤ t325 then (if t325 < (x6_2.length : Int) then ((stepstoneref04_Cell.f a0_0 a0_1 a0_2 a0_3 a0_4 a0_5 a0_6 (wrap64 (x8_2 + 1)) 2).bind fun t327 => (if 0 ≤ t327 then (if t327 < (x6_2.length : Int) then ((some ((y324.set (t325 : Int).toNat ((rd_T69 l1 x8_2).f0)).set (t327 : Int).toNat (IntKind.u64.wrap (2 * ((rd_T69 l1 x8_2).f1))) : List Int)).bind fun y328 => (if (rd_T69 l1 x8_2).f4 = true then ((stepstoneref04_Cell.f a0_0 a0_1 a0_2 a0_3 a0_4 a0_5 a0_6 (wrap64 (x8_2 + 1)) 2).bind fun t329 => (if 0 ≤ t329 then (if t329 < (x6_2.length : Int) then (stepstoneref11_Lay.j2 k2 l1 (y328.set (t329 : Int).toNat (IntKind.u64.wrap ((IntKind.u64.wrap (2 * ((rd_T69 l1 x8_2).f1))) + 1))) x8_2 a0_0 a0_1 a0_2 a0_3 a0_4 a0_5 a0_6 ((rd_T69 l1 x8_2).f0) ((rd_T69 l1 x8_2).f1) ((rd_T69 l1 x8_2).f2) ((rd_T69 l1 x8_2).f3) ((rd_T69 l1 x8_2).f4)) else (none)) else (none))) else (stepstoneref11_Lay.j2 k2 l1 y328 x8_2 a0_0 a0_1 a0_2 a0_3 a0_4 a0_5 a0_6 ((rd_T69 l1 x8_2).f0) ((rd_T69 l1 x8_2).f1) ((rd_T69 l1 x8_2).f2) ((rd_T69 l1 x8_2).f3) ((rd_T69 l1 x8_2).f4)))) else (none)) else (none))) else (none)) else (none)) = some r := H
           have A36 := Aside0.mk A360
           clear A360
           by_cases c37 : 0 ≤ t325
           ·rw [if_pos c37] at H
            have c37b0 : decide (0 ≤ t325) = true := decide_eq_true c37
            clear c37
            by_cases c38 : t325 < (x6_2.length : Int)
            ·rw [if_pos c38] at H
             have c38b0 : decide (t325 < (x6_2.length : Int)) = true := decide_eq_true c38
             clear c38
             obtain ⟨y326, hy326⟩ : ∃ y_ : List Int, y_ = (y324.set (t325 : Int).toNat ((rd_T69 l1 x8_2).f0)) := ⟨_, rfl⟩
             replace H : ((stepstoneref04_Cell.f a0_0 a0_1 a0_2 a0_3 a0_4 a0_5 a0_6 (wrap64 (x8_2 + 1)) 2).bind fun t327 => (if 0 ≤ t327 then (if t327 < (x6_2.length : Int) then ((some (y326.set (t327 : Int).toNat (IntKind.u64.wrap (2 * ((rd_T69 l1 x8_2).f1))) : List Int)).bind fun y328 => (if (rd_T69 l1 x8_2).f4 = true then ((stepstoneref04_Cell.f a0_0 a0_1 a0_2 a0_3 a0_4 a0_5 a0_6 (wrap64 (x8_2 + 1)) 2).bind fun t329 => (if 0 ≤ t329 then (if t329 < (x6_2.length : Int) then (stepstoneref11_Lay.j2 k2 l1 (y328.set (t329 : Int).toNat (IntKind.u64.wrap ((IntKind.u64.wrap (2 * ((rd_T69 l1 x8_2).f1))) + 1))) x8_2 a0_0 a0_1 a0_2 a0_3 a0_4 a0_5 a0_6 ((rd_T69 l1 x8_2).f0) ((rd_T69 l1 x8_2).f1) ((rd_T69 l1 x8_2).f2) ((rd_T69 l1 x8_2).f3) ((rd_T69 l1 x8_2).f4)) else (none)) else (none))) else (stepstoneref11_Lay.j2 k2 l1 y328 x8_2 a0_0 a0_1 a0_2 a0_3 a0_4 a0_5 a0_6 ((rd_T69 l1 x8_2).f0) ((rd_T69 l1 x8_2).f1) ((rd_T69 l1 x8_2).f2) ((rd_T69 l1 x8_2).f3) ((rd_T69 l1 x8_2).f4)))) else (none)) else (none))) = some r := by first | (rw [hy326]; with_reducible exact H) | (have H2_ := (Option.bind_some _ _).symm.trans H; rw [hy326]; with_reducible exact H2_) | (have H2_ := (Option.bind_some _ _).symm.trans H; with_reducible exact H2_) | with_reducible exact H | (rw [hy326]; exact H) | exact H
             have Ny326 := Aside0.mk hy326
             clear hy326
             replace H := Option.bind_eq_some_iff.mp H
             obtain ⟨t327, A400, H⟩ := H
             replace H : (if 0 ≤ t327 then (if t327 < (x6_2.length : Int) then ((some (y326.set (t327 : Int).toNat (IntKind.u64.wrap (2 * ((rd_T69 l1 x8_2).f1))) : List Int)).bind fun y328 => (if (rd_T69 l1 x8_2).f4 = true then ((stepstoneref04_Cell.f a0_0 a0_1 a0_2 a0_3 a0_4 a0_5 a0_6 (wrap64 (x8_2 + 1)) 2).bind fun t329 => (if 0 ≤ t329 then (if t329 < (x6_2.length : Int) then (stepstoneref11_Lay.j2 k2 l1 (y328.set (t329 : Int).toNat (IntKind.u64.wrap ((IntKind.u64.wrap (2 * ((rd_T69 l1 x8_2).f1))) + 1))) x8_2 a0_0 a0_1 a0_2 a0_3 a0_4 a0_5 a0_6 ((rd_T69 l1 x8_2).f0) ((rd_T69 l1 x8_2).f1) ((rd_T69 l1 x8_2).f2) ((rd_T69 l1 x8_2).f3) ((rd_T69 l1 x8_2).f4)) else (none)) else (none))) else (stepstoneref11_Lay.j2 k2 l1 y328 x8_2 a0_0 a0_1 a0_2 a0_3 a0_4 a0_5 a0_6 ((rd_T69 l1 x8_2).f0) ((rd_T69 l1 x8_2).f1) ((rd_T69 l1 x8_2).f2) ((rd_T69 l1 x8_2).f3) ((rd_T69 l1 x8_2).f4)))) else (none)) else (none)) = some r := H
             have A40 := Aside0.mk A400
             clear A400
             by_cases c41 : 0 ≤ t327
             ·rw [if_pos c41] at H
              have c41b0 : decide (0 ≤ t327) = true := decide_eq_true c41
              clear c41
              by_cases c42 : t327 < (x6_2.length : Int)
              ·rw [if_pos c42] at H
               have c42b0 : decide (t327 < (x6_2.length : Int)) = true := decide_eq_true c42
               clear c42
               obtain ⟨y328, hy328⟩ : ∃ y_ : List Int, y_ = (y326.set (t327 : Int).toNat (IntKind.u64.wrap (2 * ((rd_T69 l1 x8_2).f1)))) := ⟨_, rfl⟩
               replace H : (if (rd_T69 l1 x8_2).f4 = true then ((stepstoneref04_Cell.f a0_0 a0_1 a0_2 a0_3 a0_4 a0_5 a0_6 (wrap64 (x8_2 + 1)) 2).bind fun t329 => (if 0 ≤ t329 then (if t329 < (x6_2.length : Int) then (stepstoneref11_Lay.j2 k2 l1 (y328.set (t329 : Int).toNat (IntKind.u64.wrap ((IntKind.u64.wrap (2 * ((rd_T69 l1 x8_2).f1))) + 1))) x8_2 a0_0 a0_1 a0_2 a0_3 a0_4 a0_5 a0_6 ((rd_T69 l1 x8_2).f0) ((rd_T69 l1 x8_2).f1) ((rd_T69 l1 x8_2).f2) ((rd_T69 l1 x8_2).f3) ((rd_T69 l1 x8_2).f4)) else (none)) else (none))) else (stepstoneref11_Lay.j2 k2 l1 y328 x8_2 a0_0 a0_1 a0_2 a0_3 a0_4 a0_5 a0_6 ((rd_T69 l1 x8_2).f0) ((rd_T69 l1 x8_2).f1) ((rd_T69 l1 x8_2).f2) ((rd_T69 l1 x8_2).f3) ((rd_T69 l1 x8_2).f4))) = some r := by first | (rw [hy328]; with_reducible exact H) | (have H2_ := (Option.bind_some _ _).symm.trans H; rw [hy328]; with_reducible exact H2_) | (have H2_ := (Option.bind_some _ _).symm.trans H; with_reducible exact H2_) | with_reducible exact H | (rw [hy328]; exact H) | exact H
               have Ny328 := Aside0.mk hy328
               clear hy328
               have HC44 := Aside0.mk H
               clear H
               have p320 : 0 ≤ (x8_2 : Int) := of_decide_eq_true (by first | (with_reducible assumption) | assumption)
               have q320 : x8_2 < (l1.length : Int) := of_decide_eq_true (by first | (with_reducible assumption) | assumption)
               obtain ⟨ad320, e320, hx320_0, hx320_1, hx320_2, hx320_3, hx320_4⟩ := at_T69 HR1.out x8_2 p320 q320
               cases e320
               replace hx320_0 := (HB.out.cell (World.block_lt_of_cell? w _ hx320_0)).trans hx320_0
               replace hx320_1 := (HB.out.cell (World.block_lt_of_cell? w _ hx320_1)).trans hx320_1
               replace hx320_2 := (HB.out.cell (World.block_lt_of_cell? w _ hx320_2)).trans hx320_2
               replace hx320_3 := (HB.out.cell (World.block_lt_of_cell? w _ hx320_3)).trans hx320_3
               replace hx320_4 := (HB.out.cell (World.block_lt_of_cell? w _ hx320_4)).trans hx320_4
               replace p320 := eq_true p320
               replace q320 := eq_true q320
               try go_wp2_with (first | ((with_reducible refine gate_dst (N := 9) rfl ?_); refine box_event ?hg (N := 9) ?hd (cs := #[.int .u64 0, .int .u64 0, .int .i64 0, .int .i64 0, .bool false]) (t := 69) ?hr ?_; (case hd => rfl); (case hg => rfl); (case hr => first | (go_simp; done) | (go_simp; rfl)); intro gb321 hg w45 hbox hb; have n0_ := Aside0.mk (Kd.R_below (by (with_reducible repeat (first | apply Kd.R_alloc | apply Kd.R_drewN | apply Kd.R_drew)); exact HO_6.out) hb); have n1_ := Aside0.mk (Kd.R_below (by (with_reducible repeat (first | apply Kd.R_alloc | apply Kd.R_drewN | apply Kd.R_drew)); exact HO_311007.out) hb); have n2_ := Aside0.mk (blk_below (g := gb292) (o := .cells #[.int .i64 a0_0, .int .i64 a0_1, .int .i64 a0_2, .int .i64 a0_3, .int .i64 a0_4, .int .i64 a0_5, .int .i64 a0_6] 23 (0, 0)) (by (with_reducible repeat (first | refine blk_drewN ?_ _ | refine blk_drew ?_ | refine blk_alloc ?_ _)); exact BK292.out) hb); have n3_ := Aside0.mk (blk_below (g := gb310) (o := .cells #[.int .i64 t293, .int .i64 t294, .int .i64 t295, .int .i64 t296, .int .i64 t297, .int .i64 t298, .int .i64 t299, .slice Ao11 t300.length co11, .int .i64 t303, .int .i64 t304, .int .i64 t305, .int .u64 t306, .int .u64 t307, .int .u64 t308, .bool t309] 50 (0, 0)) (by (with_reducible repeat (first | refine blk_drewN ?_ _ | refine blk_drew ?_ | refine blk_alloc ?_ _)); exact BK310.out) hb); have n4_ := Aside0.mk (below_step (by repeat (first | (with_reducible first | exact HB.out | apply below_alloc | apply pw_below_drewN | apply below_drew1 | refine below_set ?_ GE292.out | refine below_set ?_ GE310.out) | exact HB.out)) hb); have n5_ := Aside0.mk (hbox); have n6_ := Aside0.mk ((by rw [hg]; exact (below_size (by repeat (first | (with_reducible first | exact HB.out | apply below_alloc | apply pw_below_drewN | apply below_drew1 | refine below_set ?_ GE292.out | refine below_set ?_ GE310.out) | exact HB.out))) : w.heap.size ≤ gb321)); have n7_ := Aside0.mk ((by rw [hg]; exact (below_size (by repeat (first | (with_reducible first | exact HB.out | apply below_alloc | apply pw_below_drewN | apply below_drew1 | refine below_set ?_ GE292.out | refine below_set ?_ GE310.out) | exact HB.out))) : w.heap.size ≤ gb321)); have n8_ := Aside0.mk ((by rw [hg]; exact Nat.ne_of_lt (blk_lt (g := gb292) (o := .cells #[.int .i64 a0_0, .int .i64 a0_1, .int .i64 a0_2, .int .i64 a0_3, .int .i64 a0_4, .int .i64 a0_5, .int .i64 a0_6] 23 (0, 0)) (by (with_reducible repeat (first | refine blk_drewN ?_ _ | refine blk_drew ?_ | refine blk_alloc ?_ _)); exact BK292.out)) : gb292 ≠ gb321)); have n9_ := Aside0.mk ((by rw [hg]; exact Nat.ne_of_gt (blk_lt (g := gb292) (o := .cells #[.int .i64 a0_0, .int .i64 a0_1, .int .i64 a0_2, .int .i64 a0_3, .int .i64 a0_4, .int .i64 a0_5, .int .i64 a0_6] 23 (0, 0)) (by (with_reducible repeat (first | refine blk_drewN ?_ _ | refine blk_drew ?_ | refine blk_alloc ?_ _)); exact BK292.out)) : gb321 ≠ gb292)); have n10_ := Aside0.mk ((by rw [hg]; exact Nat.ne_of_lt (blk_lt (g := gb310) (o := .cells #[.int .i64 t293, .int .i64 t294, .int .i64 t295, .int .i64 t296, .int .i64 t297, .int .i64 t298, .int .i64 t299, .slice Ao11 t300.length co11, .int .i64 t303, .int .i64 t304, .int .i64 t305, .int .u64 t306, .int .u64 t307, .int .u64 t308, .bool t309] 50 (0, 0)) (by (with_reducible repeat (first | refine blk_drewN ?_ _ | refine blk_drew ?_ | refine blk_alloc ?_ _)); exact BK310.out)) : gb310 ≠ gb321)); have n11_ := Aside0.mk ((by rw [hg]; exact Nat.ne_of_gt (blk_lt (g := gb310) (o := .cells #[.int .i64 t293, .int .i64 t294, .int .i64 t295, .int .i64 t296, .int .i64 t297, .int .i64 t298, .int .i64 t299, .slice Ao11 t300.length co11, .int .i64 t303, .int .i64 t304, .int .i64 t305, .int .u64 t306, .int .u64 t307, .int .u64 t308, .bool t309] 50 (0, 0)) (by (with_reducible repeat (first | refine blk_drewN ?_ _ | refine blk_drew ?_ | refine blk_alloc ?_ _)); exact BK310.out)) : gb321 ≠ gb310)); clear HO_6; clear HO_311007; clear BK292; clear BK310; clear HB; have HO_6 := n0_; have HO_311007 := n1_; have BK292 := n2_; have BK310 := n3_; have HB := n4_; have BK321 := n5_; have GW321 := n6_; have GE321 := n7_; have NB292_321 := n8_; have NB321_292 := n9_; have NB310_321 := n10_; have NB321_310 := n11_; clear n0_ n1_ n2_ n3_ n4_ n5_ n6_ n7_ n8_ n9_ n10_ n11_; clear hb hbox hg; have hnb46 := NB321_292.out; have hnc46 := NB292_321.out; have hnb47 := NB321_310.out; have hnc47 := NB310_321.out; have hcz48_0 : w45.cell? ⟨gb321, 0, none⟩ = some (.int .u64 0) := (blk_cell BK321.out 0).trans rfl; have hcz48_1 : w45.cell? ⟨gb321, 1, none⟩ = some (.int .u64 0) := (blk_cell BK321.out 1).trans rfl; have hcz48_2 : w45.cell? ⟨gb321, 2, none⟩ = some (.int .i64 0) := (blk_cell BK321.out 2).trans rfl; have hcz48_3 : w45.cell? ⟨gb321, 3, none⟩ = some (.int .i64 0) := (blk_cell BK321.out 3).trans rfl; have hcz48_4 : w45.cell? ⟨gb321, 4, none⟩ = some (.bool false) := (blk_cell BK321.out 4).trans rfl; have hfz48_0 := blk_frozen BK321.out 0; have hfz48_1 := blk_frozen BK321.out 1; have hfz48_2 := blk_frozen BK321.out 2; have hfz48_3 := blk_frozen BK321.out 3; have hfz48_4 := blk_frozen BK321.out 4; have hnb49 := NB292_310.out; have hnc49 := NB310_292.out; have hcz50_0 : w45.cell? ⟨gb292, 0, none⟩ = some (.int .i64 a0_0) := (blk_cell BK292.out 0).trans rfl; have hcz50_1 : w45.cell? ⟨gb292, 1, none⟩ = some (.int .i64 a0_1) := (blk_cell BK292.out 1).trans rfl; have hcz50_2 : w45.cell? ⟨gb292, 2, none⟩ = some (.int .i64 a0_2) := (blk_cell BK292.out 2).trans rfl; have hcz50_3 : w45.cell? ⟨gb292, 3, none⟩ = some (.int .i64 a0_3) := (blk_cell BK292.out 3).trans rfl; have hcz50_4 : w45.cell? ⟨gb292, 4, none⟩ = some (.int .i64 a0_4) := (blk_cell BK292.out 4).trans rfl; have hcz50_5 : w45.cell? ⟨gb292, 5, none⟩ = some (.int .i64 a0_5) := (blk_cell BK292.out 5).trans rfl; have hcz50_6 : w45.cell? ⟨gb292, 6, none⟩ = some (.int .i64 a0_6) := (blk_cell BK292.out 6).trans rfl; have hfz50_0 := blk_frozen BK292.out 0; have hfz50_1 := blk_frozen BK292.out 1; have hfz50_2 := blk_frozen BK292.out 2; have hfz50_3 := blk_frozen BK292.out 3; have hfz50_4 := blk_frozen BK292.out 4; have hfz50_5 := blk_frozen BK292.out 5; have hfz50_6 := blk_frozen BK292.out 6) | ((with_reducible refine gate_callee (f := 23) rfl ?_); refine goesL_ (some 48) rfl rfl Try.func23 (by kernel_rfl) rfl #[.agg #[.int .i64 a0_0, .int .i64 a0_1, .int .i64 a0_2, .int .i64 a0_3, .int .i64 a0_4, .int .i64 a0_5, .int .i64 a0_6], .int .i64 (wrap64 (x8_2 + 1)), .int .i64 0] rfl (by (try simp only [List.map_toArray, List.map_cons, List.map_nil]); first | done | rfl | (simp only [List.length_drop, List.length_take]; rfl)) ?_; (with_reducible refine (stepstoneref04_Cell.calls a0_0 a0_1 a0_2 a0_3 a0_4 a0_5 a0_6 (wrap64 (x8_2 + 1)) 0 t322 _ A31.out).mono ?_); rintro e w51 ⟨rfl, hb⟩; refine ⟨_, rfl, ?_⟩; have n0_ := Aside0.mk (Kd.R_below (by (with_reducible repeat (first | apply Kd.R_alloc | apply Kd.R_drewN | apply Kd.R_drew)); exact (Kd.R_mono (Kd.R_far (p := ⟨gb321, 4, none⟩) (Kd.R_far (p := ⟨gb321, 3, none⟩) (Kd.R_far (p := ⟨gb321, 2, none⟩) (Kd.R_far (p := ⟨gb321, 1, none⟩) (Kd.R_far (p := ⟨gb321, 0, none⟩) (Kd.R_types HO_6.out BK321.out (by decide)) (fun _ hk => hk.2) (.int .u64 ((rd_T69 l1 x8_2).f0))) (fun _ hk => hk.2) (.int .u64 ((rd_T69 l1 x8_2).f1))) (fun _ hk => hk.2) (.int .i64 ((rd_T69 l1 x8_2).f2))) (fun _ hk => hk.2) (.int .i64 ((rd_T69 l1 x8_2).f3))) (fun _ hk => hk.2) (.bool ((rd_T69 l1 x8_2).f4))) (fun _ h_ => h_.1))) hb); have n1_ := Aside0.mk (Kd.R_below (by (with_reducible repeat (first | apply Kd.R_alloc | apply Kd.R_drewN | apply Kd.R_drew)); exact (Kd.R_mono (Kd.R_far (p := ⟨gb321, 4, none⟩) (Kd.R_far (p := ⟨gb321, 3, none⟩) (Kd.R_far (p := ⟨gb321, 2, none⟩) (Kd.R_far (p := ⟨gb321, 1, none⟩) (Kd.R_far (p := ⟨gb321, 0, none⟩) (Kd.R_types HO_311007.out BK321.out (by decide)) (fun _ hk => hk.2) (.int .u64 ((rd_T69 l1 x8_2).f0))) (fun _ hk => hk.2) (.int .u64 ((rd_T69 l1 x8_2).f1))) (fun _ hk => hk.2) (.int .i64 ((rd_T69 l1 x8_2).f2))) (fun _ hk => hk.2) (.int .i64 ((rd_T69 l1 x8_2).f3))) (fun _ hk => hk.2) (.bool ((rd_T69 l1 x8_2).f4))) (fun _ h_ => h_.1))) hb); have n2_ := Aside0.mk (blk_below (g := gb292) (o := .cells #[.int .i64 a0_0, .int .i64 a0_1, .int .i64 a0_2, .int .i64 a0_3, .int .i64 a0_4, .int .i64 a0_5, .int .i64 a0_6] 23 (0, 0)) (by (with_reducible repeat (first | refine blk_drewN ?_ _ | refine blk_drew ?_ | refine blk_alloc ?_ _)); refine blk_far ?_ NB292_321.out _; (with_reducible repeat (first | refine blk_drewN ?_ _ | refine blk_drew ?_ | refine blk_alloc ?_ _)); refine blk_far ?_ NB292_321.out _; (with_reducible repeat (first | refine blk_drewN ?_ _ | refine blk_drew ?_ | refine blk_alloc ?_ _)); refine blk_far ?_ NB292_321.out _; (with_reducible repeat (first | refine blk_drewN ?_ _ | refine blk_drew ?_ | refine blk_alloc ?_ _)); refine blk_far ?_ NB292_321.out _; (with_reducible repeat (first | refine blk_drewN ?_ _ | refine blk_drew ?_ | refine blk_alloc ?_ _)); refine blk_far ?_ NB292_321.out _; (with_reducible repeat (first | refine blk_drewN ?_ _ | refine blk_drew ?_ | refine blk_alloc ?_ _)); exact BK292.out) hb); have n3_ := Aside0.mk (blk_below (g := gb310) (o := .cells #[.int .i64 t293, .int .i64 t294, .int .i64 t295, .int .i64 t296, .int .i64 t297, .int .i64 t298, .int .i64 t299, .slice Ao11 t300.length co11, .int .i64 t303, .int .i64 t304, .int .i64 t305, .int .u64 t306, .int .u64 t307, .int .u64 t308, .bool t309] 50 (0, 0)) (by (with_reducible repeat (first | refine blk_drewN ?_ _ | refine blk_drew ?_ | refine blk_alloc ?_ _)); refine blk_far ?_ NB310_321.out _; (with_reducible repeat (first | refine blk_drewN ?_ _ | refine blk_drew ?_ | refine blk_alloc ?_ _)); refine blk_far ?_ NB310_321.out _; (with_reducible repeat (first | refine blk_drewN ?_ _ | refine blk_drew ?_ | refine blk_alloc ?_ _)); refine blk_far ?_ NB310_321.out _; (with_reducible repeat (first | refine blk_drewN ?_ _ | refine blk_drew ?_ | refine blk_alloc ?_ _)); refine blk_far ?_ NB310_321.out _; (with_reducible repeat (first | refine blk_drewN ?_ _ | refine blk_drew ?_ | refine blk_alloc ?_ _)); refine blk_far ?_ NB310_321.out _; (with_reducible repeat (first | refine blk_drewN ?_ _ | refine blk_drew ?_ | refine blk_alloc ?_ _)); exact BK310.out) hb); have n4_ := Aside0.mk (blk_below (g := gb321) (o := .cells #[.int .u64 ((rd_T69 l1 x8_2).f0), .int .u64 ((rd_T69 l1 x8_2).f1), .int .i64 ((rd_T69 l1 x8_2).f2), .int .i64 ((rd_T69 l1 x8_2).f3), .bool ((rd_T69 l1 x8_2).f4)] 69 (0, 0)) (by (with_reducible repeat (first | refine blk_drewN ?_ _ | refine blk_drew ?_ | refine blk_alloc ?_ _)); refine blk_put (cs := #[.int .u64 ((rd_T69 l1 x8_2).f0), .int .u64 ((rd_T69 l1 x8_2).f1), .int .i64 ((rd_T69 l1 x8_2).f2), .int .i64 ((rd_T69 l1 x8_2).f3), .bool false]) ?_ 4 _ rfl; (with_reducible repeat (first | refine blk_drewN ?_ _ | refine blk_drew ?_ | refine blk_alloc ?_ _)); refine blk_put (cs := #[.int .u64 ((rd_T69 l1 x8_2).f0), .int .u64 ((rd_T69 l1 x8_2).f1), .int .i64 ((rd_T69 l1 x8_2).f2), .int .i64 0, .bool false]) ?_ 3 _ rfl; (with_reducible repeat (first | refine blk_drewN ?_ _ | refine blk_drew ?_ | refine blk_alloc ?_ _)); refine blk_put (cs := #[.int .u64 ((rd_T69 l1 x8_2).f0), .int .u64 ((rd_T69 l1 x8_2).f1), .int .i64 0, .int .i64 0, .bool false]) ?_ 2 _ rfl; (with_reducible repeat (first | refine blk_drewN ?_ _ | refine blk_drew ?_ | refine blk_alloc ?_ _)); refine blk_put (cs := #[.int .u64 ((rd_T69 l1 x8_2).f0), .int .u64 0, .int .i64 0, .int .i64 0, .bool false]) ?_ 1 _ rfl; (with_reducible repeat (first | refine blk_drewN ?_ _ | refine blk_drew ?_ | refine blk_alloc ?_ _)); refine blk_put (cs := #[.int .u64 0, .int .u64 0, .int .i64 0, .int .i64 0, .bool false]) ?_ 0 _ rfl; (with_reducible repeat (first | refine blk_drewN ?_ _ | refine blk_drew ?_ | refine blk_alloc ?_ _)); exact BK321.out) hb); have n5_ := Aside0.mk (below_step (by repeat (first | (with_reducible first | exact HB.out | apply below_alloc | apply pw_below_drewN | apply below_drew1 | refine below_set ?_ GE292.out | refine below_set ?_ GE310.out | refine below_set ?_ GE321.out) | exact HB.out)) hb); clear HO_6; clear HO_311007; clear BK292; clear BK310; clear BK321; clear HB; have HO_6 := n0_; have HO_311007 := n1_; have BK292 := n2_; have BK310 := n3_; have BK321 := n4_; have HB := n5_; clear n0_ n1_ n2_ n3_ n4_ n5_; (try clear hb); (try clear hb2); (try clear hk); (try clear hi)) | ((with_reducible refine gate_callee (f := 61) rfl ?_); refine goesL_ (some 49) rfl rfl Try.func61 (by kernel_rfl) rfl #[.int .i64 0] rfl (by (try simp only [List.map_toArray, List.map_cons, List.map_nil]); first | done | rfl | (simp only [List.length_drop, List.length_take]; rfl)) ?_; (with_reducible refine (stepstoneref02_Taken.calls 0 t323 _ A32.out).mono ?_); rintro e w' ⟨rfl, ⟨nd, rfl⟩⟩; refine ⟨_, rfl, ?_⟩; (try (rw [drewN_self w51]; generalize hq_ : World.drewN w51 _ = w51; have n0_ : Aside0 (Kd.R (Kd.int .u64) 40 w51 w.heap.size (fun k_ => some k_ ≠ (v315 : Value).ownBlock) (.slice Ao11 t300.length co11) t300) := ⟨by rw [← hq_]; exact (by (with_reducible repeat (first | apply Kd.R_alloc | apply Kd.R_drewN | apply Kd.R_drew)); exact HO_311007.out)⟩; have n1_ : Aside0 (Kd.R (Kd.int .u64) 40 w51 w.heap.size (fun k_ => some k_ ≠ (.slice Ao11 t300.length co11 : Value).ownBlock) v315 x6_2) := ⟨by rw [← hq_]; exact (by (with_reducible repeat (first | apply Kd.R_alloc | apply Kd.R_drewN | apply Kd.R_drew)); exact HO_6.out)⟩; have n2_ : Aside0 (w51.heap[gb292]? = some (.cells #[.int .i64 a0_0, .int .i64 a0_1, .int .i64 a0_2, .int .i64 a0_3, .int .i64 a0_4, .int .i64 a0_5, .int .i64 a0_6] 23 (0, 0))) := ⟨by rw [← hq_]; exact (by (with_reducible repeat (first | refine blk_drewN ?_ _ | refine blk_drew ?_ | refine blk_alloc ?_ _)); exact BK292.out)⟩; have n3_ : Aside0 (w51.heap[gb310]? = some (.cells #[.int .i64 t293, .int .i64 t294, .int .i64 t295, .int .i64 t296, .int .i64 t297, .int .i64 t298, .int .i64 t299, .slice Ao11 t300.length co11, .int .i64 t303, .int .i64 t304, .int .i64 t305, .int .u64 t306, .int .u64 t307, .int .u64 t308, .bool t309] 50 (0, 0))) := ⟨by rw [← hq_]; exact (by (with_reducible repeat (first | refine blk_drewN ?_ _ | refine blk_drew ?_ | refine blk_alloc ?_ _)); exact BK310.out)⟩; have n4_ : Aside0 (w51.heap[gb321]? = some (.cells #[.int .u64 ((rd_T69 l1 x8_2).f0), .int .u64 ((rd_T69 l1 x8_2).f1), .int .i64 ((rd_T69 l1 x8_2).f2), .int .i64 ((rd_T69 l1 x8_2).f3), .bool ((rd_T69 l1 x8_2).f4)] 69 (0, 0))) := ⟨by rw [← hq_]; exact (by (with_reducible repeat (first | refine blk_drewN ?_ _ | refine blk_drew ?_ | refine blk_alloc ?_ _)); exact BK321.out)⟩; have n5_ : Aside0 (Below w.heap.size w w51) := ⟨by rw [← hq_]; exact (by repeat (first | (with_reducible first | exact HB.out | apply below_alloc | apply pw_below_drewN | apply below_drew1 | refine below_set ?_ GE292.out | refine below_set ?_ GE310.out | refine below_set ?_ GE321.out) | exact HB.out))⟩; clear HO_311007 HO_6 BK292 BK310 BK321 HB hq_; have HO_311007 := n0_; have HO_6 := n1_; have BK292 := n2_; have BK310 := n3_; have BK321 := n4_; have HB := n5_; clear n0_ n1_ n2_ n3_ n4_ n5_)); have p35 : 0 ≤ (t322 : Int) := of_decide_eq_true (by first | (with_reducible assumption) | assumption); have q35 : (t322 : Int) < ((x6_2.length : Int) : Int) := of_decide_eq_true (by first | (with_reducible assumption) | assumption); obtain ⟨go35, co35, eo35, gb35, gl35, cl35, HG35⟩ := Kd.R_form HO_6.out (by omega); (first | cases eo35 | (injection eo35 with ea_ en_ ec_; (first | subst ea_ | (injection ea_ with ea_; subst ea_)); subst ec_; clear en_)); have GB35 := Aside0.mk gb35; have GG35 := Aside0.mk HG35; clear gb35 gl35 HG35; obtain ⟨hx35_0, hf35_0⟩ := Kd.R_celln 0 HO_6.out (t322 : Int) p35 q35; replace p35 := eq_true p35; replace q35 := eq_true q35; obtain ⟨hy52_, hz52_⟩ := Kd.R_celln 0 HO_6.out (t322 : Int) (of_decide_eq_true (by first | (with_reducible assumption) | assumption)) (of_decide_eq_true (by first | (with_reducible assumption) | assumption)); have HP52 := Kd.R_putg HO_6.out (t322 : Int) t323) | ((with_reducible refine gate_store (t := 40) (p := 50) rfl ?_); refine store_event (t := 40) (p := 50) (v := ?vo_w53) (w1 := (w51.setCell ⟨go35, (t322 : Int).toNat, none⟩ (.int .u64 t323))) ?hg ?ho ?hn ?hr ?_; (case ho => rfl); (case hg => rfl); (case hn => rfl); (case hr => first | (go_simp; done) | (go_simp; rfl)); intro w53 hw; have hg : w51.grownBy w53 (some go35) := (by rw [hw]; exact HP52.2); have hp_ : Kd.R (Kd.int .u64) 40 w53 w.heap.size (fun k_ => some k_ ≠ (.slice Ao11 t300.length co11 : Value).ownBlock) (.slice (some ⟨go35, 0, none⟩) x6_2.length co35) y324 := (by rw [hw, Ny324.out]; exact HP52.1); clear HP52; have n0_ := Aside0.mk (hp_); have n1_ := Aside0.mk (Kd.R_after (v := (.slice (some ⟨go35, 0, none⟩) x6_2.length co35)) (v1 := (.slice (some ⟨go35, 0, none⟩) x6_2.length co35)) (ok := (fun _ => True)) (by (with_reducible repeat (first | apply Kd.R_alloc | apply Kd.R_drewN | apply Kd.R_drew)); exact Kd.R_mono HO_311007.out (fun _ hk => ⟨trivial, hk⟩)) hg (.inl rfl)); have n2_ := Aside0.mk (blk_grown (g := gb292) (o := .cells #[.int .i64 a0_0, .int .i64 a0_1, .int .i64 a0_2, .int .i64 a0_3, .int .i64 a0_4, .int .i64 a0_5, .int .i64 a0_6] 23 (0, 0)) (by (with_reducible repeat (first | refine blk_drewN ?_ _ | refine blk_drew ?_ | refine blk_alloc ?_ _)); exact BK292.out) hg (Kd.R_ne HO_6.out BK292.out (by decide))); have n3_ := Aside0.mk (blk_grown (g := gb310) (o := .cells #[.int .i64 t293, .int .i64 t294, .int .i64 t295, .int .i64 t296, .int .i64 t297, .int .i64 t298, .int .i64 t299, .slice Ao11 t300.length co11, .int .i64 t303, .int .i64 t304, .int .i64 t305, .int .u64 t306, .int .u64 t307, .int .u64 t308, .bool t309] 50 (0, 0)) (by (with_reducible repeat (first | refine blk_drewN ?_ _ | refine blk_drew ?_ | refine blk_alloc ?_ _)); exact BK310.out) hg (Kd.R_ne HO_6.out BK310.out (by decide))); have n4_ := Aside0.mk (blk_grown (g := gb321) (o := .cells #[.int .u64 ((rd_T69 l1 x8_2).f0), .int .u64 ((rd_T69 l1 x8_2).f1), .int .i64 ((rd_T69 l1 x8_2).f2), .int .i64 ((rd_T69 l1 x8_2).f3), .bool ((rd_T69 l1 x8_2).f4)] 69 (0, 0)) (by (with_reducible repeat (first | refine blk_drewN ?_ _ | refine blk_drew ?_ | refine blk_alloc ?_ _)); exact BK321.out) hg (Kd.R_ne HO_6.out BK321.out (by decide))); have n5_ := Aside0.mk ((by rw [hw]; exact below_set (HB.out) GB35.out : Below w.heap.size w w53)); clear HO_6; clear HO_311007; clear BK292; clear BK310; clear BK321; clear HB; have HO_6 := n0_; have HO_311007 := n1_; have BK292 := n2_; have BK310 := n3_; have BK321 := n4_; have HB := n5_; clear n0_ n1_ n2_ n3_ n4_ n5_; clear hg hw hp_))
               have n0_ := Aside0.mk (Kd.R_drew HO_6.out)
               have n1_ := Aside0.mk (Kd.R_drew HO_311007.out)
               have n2_ := Aside0.mk (blk_drew BK292.out)
               have n3_ := Aside0.mk (blk_drew BK310.out)
               have n4_ := Aside0.mk (blk_drew BK321.out)
               have n5_ := Aside0.mk (below_drew1 HB.out)
               clear HO_6
               clear HO_311007
               clear BK292
               clear BK310
               clear BK321
               clear HB
               have HO_6 := n0_
               have HO_311007 := n1_
               have BK292 := n2_
               have BK310 := n3_
               have BK321 := n4_
               have HB := n5_
               clear n0_ n1_ n2_ n3_ n4_ n5_
               refine start_ (n := 9) (S := fun w' => w'.cell? ⟨gb292, 0, none⟩ = some (.int .i64 a0_0) ∧ w'.cell? ⟨gb292, 1, none⟩ = some (.int .i64 a0_1) ∧ w'.cell? ⟨gb292, 2, none⟩ = some (.int .i64 a0_2) ∧ w'.cell? ⟨gb292, 3, none⟩ = some (.int .i64 a0_3) ∧ w'.cell? ⟨gb292, 4, none⟩ = some (.int .i64 a0_4) ∧ w'.cell? ⟨gb292, 5, none⟩ = some (.int .i64 a0_5) ∧ w'.cell? ⟨gb292, 6, none⟩ = some (.int .i64 a0_6) ∧ w'.cell? ⟨gb321, 0, none⟩ = some (.int .u64 ((rd_T69 l1 x8_2).f0)) ∧ w'.cell? ⟨gb321, 1, none⟩ = some (.int .u64 ((rd_T69 l1 x8_2).f1)) ∧ w'.cell? ⟨gb321, 2, none⟩ = some (.int .i64 ((rd_T69 l1 x8_2).f2)) ∧ w'.cell? ⟨gb321, 3, none⟩ = some (.int .i64 ((rd_T69 l1 x8_2).f3)) ∧ w'.cell? ⟨gb321, 4, none⟩ = some (.bool ((rd_T69 l1 x8_2).f4))) (ds := [8]) #[false, false, false, false, false, false, false, false, false] (by kernel_rfl) rfl rfl ⟨(blk_cell BK292.out 0).trans rfl, (blk_cell BK292.out 1).trans rfl, (blk_cell BK292.out 2).trans rfl, (blk_cell BK292.out 3).trans rfl, (blk_cell BK292.out 4).trans rfl, (blk_cell BK292.out 5).trans rfl, (blk_cell BK292.out 6).trans rfl, (blk_cell BK321.out 0).trans rfl, (blk_cell BK321.out 1).trans rfl, (blk_cell BK321.out 2).trans rfl, (blk_cell BK321.out 3).trans rfl, (blk_cell BK321.out 4).trans rfl⟩ (fun hHeld => ?_); refine with_tabW stepstoneref11_Lay.tab12 stepstoneref11_Lay.bits12 (fun HT_ HW_ => ?_)
               generalize w53.drew = w54 at HO_6 HO_311007 BK292 BK310 BK321 HB hHeld ⊢
               refine pure_ (i := 0) (N := some 51) (v := ?_) (a' := ?_) #[true, false, false, false, false, false, false, false, false] rfl rfl (any_of HT_.out (by kernel_rfl)) (fun _ _ _ h => h) (Or.inl ⟨by rfl, ?_⟩) ?_ ?_
               rotate_left
               ·intro w'
                go_simp
                with_reducible rfl
               rotate_left
               ·simp only [Act.put, List.setIfInBounds_toArray, List.set_cons_zero, List.set_cons_succ, i64_w, i32_w]
                rfl
               refine pure_ (i := 2) (N := some 53) (v := ?_) (a' := ?_) #[true, false, true, false, false, false, false, false, false] rfl rfl (any_of HT_.out (by kernel_rfl)) (fun _ _ _ h => h) (Or.inl ⟨by rfl, ?_⟩) ?_ ?_
               rotate_left
               ·intro w'
                go_simp
                with_reducible rfl
               rotate_left
               ·simp only [Act.put, List.setIfInBounds_toArray, List.set_cons_zero, List.set_cons_succ, i64_w, i32_w]
                rfl
               refine pure_ (i := 3) (N := some 54) (v := ?_) (a' := ?_) #[true, false, true, true, false, false, false, false, false] rfl rfl (any_of HT_.out (by kernel_rfl)) (fun _ _ _ h => h) (Or.inl ⟨by rfl, ?_⟩) ?_ ?_
               rotate_left
               ·intro w'
                go_simp
                with_reducible rfl
               rotate_left
               ·simp only [Act.put, List.setIfInBounds_toArray, List.set_cons_zero, List.set_cons_succ, i64_w, i32_w]
                rfl
               refine pure_ (i := 5) (N := some 56) (v := ?_) (a' := ?_) #[true, false, true, true, false, true, false, false, false] rfl rfl (any_of HT_.out (by kernel_rfl)) (fun _ _ _ h => h) (Or.inl ⟨by rfl, ?_⟩) ?_ ?_
               rotate_left
               ·intro w'
                go_simp
                with_reducible rfl
               rotate_left
               ·simp only [Act.put, List.setIfInBounds_toArray, List.set_cons_zero, List.set_cons_succ, i64_w, i32_w]
                rfl
               refine take_ (i := 1) (N := some 52) (v := ?_) (a' := ?_) #[true, true, true, true, false, true, false, false, false] rfl rfl (take_ofW HT_.out HW_.out (by kernel_rfl)) (fun _ _ _ h => h) (Or.inl ⟨by rfl, ?_⟩) hHeld ?_ ?_
               rotate_left
               ·rintro w' ⟨s0, s1, s2, s3, s4, s5, s6, s7, s8, s9, s10, s11⟩
                go_simp
                with_reducible rfl
               rotate_left
               ·simp only [Act.put, List.setIfInBounds_toArray, List.set_cons_zero, List.set_cons_succ, i64_w, i32_w]
                rfl
               refine take_ (i := 6) (N := some 57) (v := ?_) (a' := ?_) #[true, true, true, true, false, true, true, false, false] rfl rfl (take_ofW HT_.out HW_.out (by kernel_rfl)) (fun _ _ _ h => h) (Or.inl ⟨by rfl, ?_⟩) hHeld ?_ ?_
               rotate_left
               ·rintro w' ⟨s0, s1, s2, s3, s4, s5, s6, s7, s8, s9, s10, s11⟩
                go_simp
                with_reducible rfl
               rotate_left
               ·simp only [Act.put, List.setIfInBounds_toArray, List.set_cons_zero, List.set_cons_succ, i64_w, i32_w]
                rfl
               refine one_ (i := 4) (N := some 55) #[true, true, true, true, true, true, true, false, false] rfl rfl (one_of HT_.out (by kernel_rfl)) (by decide) (fun K hK => ?_)
               refine goes_ Try.func23 (by kernel_rfl) rfl #[.agg #[.int .i64 a0_0, .int .i64 a0_1, .int .i64 a0_2, .int .i64 a0_3, .int .i64 a0_4, .int .i64 a0_5, .int .i64 a0_6], .int .i64 (wrap64 (x8_2 + 1)), .int .i64 1] (by rfl) rfl rfl (by (try simp only [List.map_toArray, List.map_cons, List.map_nil]); first | done | rfl | (simp only [List.length_drop, List.length_take]; rfl)) ?_
               with_reducible refine (stepstoneref04_Cell.calls a0_0 a0_1 a0_2 a0_3 a0_4 a0_5 a0_6 (wrap64 (x8_2 + 1)) 1 t325 _ A36.out).mono ?_
               rintro e w55 ⟨rfl, hb⟩
               refine ⟨_, rfl, ?_⟩
               have n0_ := Aside0.mk (Kd.R_below (by (with_reducible repeat (first | apply Kd.R_alloc | apply Kd.R_drewN | apply Kd.R_drew)); exact HO_6.out) hb)
               have n1_ := Aside0.mk (Kd.R_below (by (with_reducible repeat (first | apply Kd.R_alloc | apply Kd.R_drewN | apply Kd.R_drew)); exact HO_311007.out) hb)
               have n2_ := Aside0.mk (blk_below (g := gb292) (o := .cells #[.int .i64 a0_0, .int .i64 a0_1, .int .i64 a0_2, .int .i64 a0_3, .int .i64 a0_4, .int .i64 a0_5, .int .i64 a0_6] 23 (0, 0)) (by (with_reducible repeat (first | refine blk_drewN ?_ _ | refine blk_drew ?_ | refine blk_alloc ?_ _)); exact BK292.out) hb)
               have n3_ := Aside0.mk (blk_below (g := gb310) (o := .cells #[.int .i64 t293, .int .i64 t294, .int .i64 t295, .int .i64 t296, .int .i64 t297, .int .i64 t298, .int .i64 t299, .slice Ao11 t300.length co11, .int .i64 t303, .int .i64 t304, .int .i64 t305, .int .u64 t306, .int .u64 t307, .int .u64 t308, .bool t309] 50 (0, 0)) (by (with_reducible repeat (first | refine blk_drewN ?_ _ | refine blk_drew ?_ | refine blk_alloc ?_ _)); exact BK310.out) hb)
               have n4_ := Aside0.mk (blk_below (g := gb321) (o := .cells #[.int .u64 ((rd_T69 l1 x8_2).f0), .int .u64 ((rd_T69 l1 x8_2).f1), .int .i64 ((rd_T69 l1 x8_2).f2), .int .i64 ((rd_T69 l1 x8_2).f3), .bool ((rd_T69 l1 x8_2).f4)] 69 (0, 0)) (by (with_reducible repeat (first | refine blk_drewN ?_ _ | refine blk_drew ?_ | refine blk_alloc ?_ _)); exact BK321.out) hb)
               have n5_ := Aside0.mk (below_step (by repeat (first | (with_reducible first | exact HB.out | apply below_alloc | apply pw_below_drewN | apply below_drew1 | refine below_set ?_ GE292.out | refine below_set ?_ GE310.out | refine below_set ?_ GE321.out) | exact HB.out)) hb)
               clear HO_6
               clear HO_311007
               clear BK292
               clear BK310
               clear BK321
               clear HB
               have HO_6 := n0_
               have HO_311007 := n1_
               have BK292 := n2_
               have BK310 := n3_
               have BK321 := n4_
               have HB := n5_
               clear n0_ n1_ n2_ n3_ n4_ n5_
               (try clear hb)
               (try clear hb2)
               (try clear hk)
               (try clear hi)
               have p39 : 0 ≤ (t325 : Int) := of_decide_eq_true (by first | (with_reducible assumption) | assumption)
               have q39 : (t325 : Int) < ((x6_2.length : Int) : Int) := of_decide_eq_true (by first | (with_reducible assumption) | assumption)
               obtain ⟨hx39_0, hf39_0⟩ := Kd.R_celln 0 HO_6.out (t325 : Int) p39 q39
               replace p39 := eq_true p39
               replace q39 := eq_true q39
               have HP56 := Kd.R_putn HO_6.out (t325 : Int) ((rd_T69 l1 x8_2).f0)
               rw [← Ny326.out] at HP56
               have HQ56 := Aside0.mk HP56
               clear HP56
               refine hK.out _ _ ⟨(blk_cell BK292.out 0).trans rfl, (blk_cell BK292.out 1).trans rfl, (blk_cell BK292.out 2).trans rfl, (blk_cell BK292.out 3).trans rfl, (blk_cell BK292.out 4).trans rfl, (blk_cell BK292.out 5).trans rfl, (blk_cell BK292.out 6).trans rfl, (blk_cell BK321.out 0).trans rfl, (blk_cell BK321.out 1).trans rfl, (blk_cell BK321.out 2).trans rfl, (blk_cell BK321.out 3).trans rfl, (blk_cell BK321.out 4).trans rfl⟩ (fun hHeld => ?_)
               clear hK K
               refine norm_ (a' := ?_) ?_ ?_
               rotate_left
               ·show Act.put _ (some 55) _ = _
                simp only [Act.put, List.setIfInBounds_toArray, List.set_cons_zero, List.set_cons_succ, i64_w, i32_w]
                rfl
               refine pure_ (i := 7) (N := some 58) (v := ?_) (a' := ?_) #[true, true, true, true, true, true, true, true, false] rfl rfl (any_of HT_.out (by kernel_rfl)) (fun _ _ _ h => h) (Or.inl ⟨by rfl, ?_⟩) ?_ ?_
               rotate_left
               ·intro w'
                go_simp
                with_reducible rfl
               rotate_left
               ·simp only [Act.put, List.setIfInBounds_toArray, List.set_cons_zero, List.set_cons_succ, i64_w, i32_w]
                rfl
               refine last_ (i := 8) (N := none) #[true, true, true, true, true, true, true, true, true] rfl rfl (one_of HT_.out (by kernel_rfl)) (by decide) (fun K hK => ?_)
               refine skip_ (w1 := ?_) (by rfl) rfl ?_ ?_
               rotate_left
               ·go_simp
                rfl
               refine hK.out _ _ ?_
               clear hK K
               refine done_ (done_of HT_.out (by kernel_rfl)) ?_
               try go_wp2
               have n0_ : Aside0 (Kd.R (Kd.int .u64) 40 (w55.setCell ⟨go35, (t325 : Int).toNat, none⟩ (.int .u64 ((rd_T69 l1 x8_2).f0))) w.heap.size (fun k_ => some k_ ≠ (.slice Ao11 t300.length co11 : Value).ownBlock) (.slice (some ⟨go35, 0, none⟩) x6_2.length co35) y326) := ⟨by (with_reducible repeat (first | apply Kd.R_alloc | apply Kd.R_drewN | apply Kd.R_drew)); exact HQ56.out⟩
               have n1_ : Aside0 (Kd.R (Kd.int .u64) 40 (w55.setCell ⟨go35, (t325 : Int).toNat, none⟩ (.int .u64 ((rd_T69 l1 x8_2).f0))) w.heap.size (fun k_ => some k_ ≠ (.slice (some ⟨go35, 0, none⟩) x6_2.length co35 : Value).ownBlock) (.slice Ao11 t300.length co11) t300) := ⟨by (with_reducible repeat (first | apply Kd.R_alloc | apply Kd.R_drewN | apply Kd.R_drew)); exact Kd.R_mono (Kd.R_far (p := ⟨go35, (t325 : Int).toNat, none⟩) (Kd.R_mono HO_311007.out (fun k_ hk => (⟨hk, fun e_ => hk.2 (by rw [e_]; rfl)⟩ : _ ∧ k_ ≠ go35))) (fun _ hk => hk.2) (.int .u64 ((rd_T69 l1 x8_2).f0))) (fun _ hk => hk.1.2)⟩
               have n2_ : Aside0 ((w55.setCell ⟨go35, (t325 : Int).toNat, none⟩ (.int .u64 ((rd_T69 l1 x8_2).f0))).heap[gb292]? = some (.cells #[.int .i64 a0_0, .int .i64 a0_1, .int .i64 a0_2, .int .i64 a0_3, .int .i64 a0_4, .int .i64 a0_5, .int .i64 a0_6] 23 (0, 0))) := ⟨by (with_reducible repeat (first | refine blk_drewN ?_ _ | refine blk_drew ?_ | refine blk_alloc ?_ _)); refine blk_far ?_ (by have h_ := Kd.R_ne HO_6.out BK292.out (by decide); intro e_; exact h_ (by rw [e_]; rfl)) _; (with_reducible repeat (first | refine blk_drewN ?_ _ | refine blk_drew ?_ | refine blk_alloc ?_ _)); exact BK292.out⟩
               have n3_ : Aside0 ((w55.setCell ⟨go35, (t325 : Int).toNat, none⟩ (.int .u64 ((rd_T69 l1 x8_2).f0))).heap[gb310]? = some (.cells #[.int .i64 t293, .int .i64 t294, .int .i64 t295, .int .i64 t296, .int .i64 t297, .int .i64 t298, .int .i64 t299, .slice Ao11 t300.length co11, .int .i64 t303, .int .i64 t304, .int .i64 t305, .int .u64 t306, .int .u64 t307, .int .u64 t308, .bool t309] 50 (0, 0))) := ⟨by (with_reducible repeat (first | refine blk_drewN ?_ _ | refine blk_drew ?_ | refine blk_alloc ?_ _)); refine blk_far ?_ (by have h_ := Kd.R_ne HO_6.out BK310.out (by decide); intro e_; exact h_ (by rw [e_]; rfl)) _; (with_reducible repeat (first | refine blk_drewN ?_ _ | refine blk_drew ?_ | refine blk_alloc ?_ _)); exact BK310.out⟩
               have n4_ : Aside0 ((w55.setCell ⟨go35, (t325 : Int).toNat, none⟩ (.int .u64 ((rd_T69 l1 x8_2).f0))).heap[gb321]? = some (.cells #[.int .u64 ((rd_T69 l1 x8_2).f0), .int .u64 ((rd_T69 l1 x8_2).f1), .int .i64 ((rd_T69 l1 x8_2).f2), .int .i64 ((rd_T69 l1 x8_2).f3), .bool ((rd_T69 l1 x8_2).f4)] 69 (0, 0))) := ⟨by (with_reducible repeat (first | refine blk_drewN ?_ _ | refine blk_drew ?_ | refine blk_alloc ?_ _)); refine blk_far ?_ (by have h_ := Kd.R_ne HO_6.out BK321.out (by decide); intro e_; exact h_ (by rw [e_]; rfl)) _; (with_reducible repeat (first | refine blk_drewN ?_ _ | refine blk_drew ?_ | refine blk_alloc ?_ _)); exact BK321.out⟩
               have n5_ : Aside0 (Below w.heap.size w (w55.setCell ⟨go35, (t325 : Int).toNat, none⟩ (.int .u64 ((rd_T69 l1 x8_2).f0)))) := ⟨by repeat (first | (with_reducible first | exact HB.out | apply below_alloc | apply pw_below_drewN | apply below_drew1 | refine below_set ?_ GB35.out | refine below_set ?_ GE292.out | refine below_set ?_ GE310.out | refine below_set ?_ GE321.out) | exact HB.out)⟩
               (try clear HO_6)
               (try clear HO_311007)
               (try clear BK292)
               (try clear BK310)
               (try clear BK321)
               (try clear HB)
               generalize (w55.setCell ⟨go35, (t325 : Int).toNat, none⟩ (.int .u64 ((rd_T69 l1 x8_2).f0))) = w57 at n0_ n1_ n2_ n3_ n4_ n5_ ⊢
               have HO_6 := n0_
               have HO_311007 := n1_
               have BK292 := n2_
               have BK310 := n3_
               have BK321 := n4_
               have HB := n5_
               clear n0_ n1_ n2_ n3_ n4_ n5_
               have n0_ := Aside0.mk (Kd.R_drew HO_6.out)
               have n1_ := Aside0.mk (Kd.R_drew HO_311007.out)
               have n2_ := Aside0.mk (blk_drew BK292.out)
               have n3_ := Aside0.mk (blk_drew BK310.out)
               have n4_ := Aside0.mk (blk_drew BK321.out)
               have n5_ := Aside0.mk (below_drew1 HB.out)
               clear HO_6
               clear HO_311007
               clear BK292
               clear BK310
               clear BK321
               clear HB
               have HO_6 := n0_
               have HO_311007 := n1_
               have BK292 := n2_
               have BK310 := n3_
               have BK321 := n4_
               have HB := n5_
               clear n0_ n1_ n2_ n3_ n4_ n5_
               refine start_ (n := 10) (S := fun w' => w'.cell? ⟨gb292, 0, none⟩ = some (.int .i64 a0_0) ∧ w'.cell? ⟨gb292, 1, none⟩ = some (.int .i64 a0_1) ∧ w'.cell? ⟨gb292, 2, none⟩ = some (.int .i64 a0_2) ∧ w'.cell? ⟨gb292, 3, none⟩ = some (.int .i64 a0_3) ∧ w'.cell? ⟨gb292, 4, none⟩ = some (.int .i64 a0_4) ∧ w'.cell? ⟨gb292, 5, none⟩ = some (.int .i64 a0_5) ∧ w'.cell? ⟨gb292, 6, none⟩ = some (.int .i64 a0_6) ∧ w'.cell? ⟨gb321, 0, none⟩ = some (.int .u64 ((rd_T69 l1 x8_2).f0)) ∧ w'.cell? ⟨gb321, 1, none⟩ = some (.int .u64 ((rd_T69 l1 x8_2).f1)) ∧ w'.cell? ⟨gb321, 2, none⟩ = some (.int .i64 ((rd_T69 l1 x8_2).f2)) ∧ w'.cell? ⟨gb321, 3, none⟩ = some (.int .i64 ((rd_T69 l1 x8_2).f3)) ∧ w'.cell? ⟨gb321, 4, none⟩ = some (.bool ((rd_T69 l1 x8_2).f4))) (ds := [9]) #[false, false, false, false, false, false, false, false, false, false] (by kernel_rfl) rfl rfl ⟨(blk_cell BK292.out 0).trans rfl, (blk_cell BK292.out 1).trans rfl, (blk_cell BK292.out 2).trans rfl, (blk_cell BK292.out 3).trans rfl, (blk_cell BK292.out 4).trans rfl, (blk_cell BK292.out 5).trans rfl, (blk_cell BK292.out 6).trans rfl, (blk_cell BK321.out 0).trans rfl, (blk_cell BK321.out 1).trans rfl, (blk_cell BK321.out 2).trans rfl, (blk_cell BK321.out 3).trans rfl, (blk_cell BK321.out 4).trans rfl⟩ (fun hHeld => ?_); refine with_tabW stepstoneref11_Lay.tab13 stepstoneref11_Lay.bits13 (fun HT_ HW_ => ?_)
               generalize w57.drew = w58 at HO_6 HO_311007 BK292 BK310 BK321 HB HQ56 hHeld ⊢
               refine pure_ (i := 0) (N := some 59) (v := ?_) (a' := ?_) #[true, false, false, false, false, false, false, false, false, false] rfl rfl (any_of HT_.out (by kernel_rfl)) (fun _ _ _ h => h) (Or.inl ⟨by rfl, ?_⟩) ?_ ?_
               rotate_left
               ·intro w'
                go_simp
                with_reducible rfl
               rotate_left
               ·simp only [Act.put, List.setIfInBounds_toArray, List.set_cons_zero, List.set_cons_succ, i64_w, i32_w]
                rfl
               refine pure_ (i := 2) (N := some 61) (v := ?_) (a' := ?_) #[true, false, true, false, false, false, false, false, false, false] rfl rfl (any_of HT_.out (by kernel_rfl)) (fun _ _ _ h => h) (Or.inl ⟨by rfl, ?_⟩) ?_ ?_
               rotate_left
               ·intro w'
                go_simp
                with_reducible rfl
               rotate_left
               ·simp only [Act.put, List.setIfInBounds_toArray, List.set_cons_zero, List.set_cons_succ, i64_w, i32_w]
                rfl
               refine pure_ (i := 3) (N := some 62) (v := ?_) (a' := ?_) #[true, false, true, true, false, false, false, false, false, false] rfl rfl (any_of HT_.out (by kernel_rfl)) (fun _ _ _ h => h) (Or.inl ⟨by rfl, ?_⟩) ?_ ?_
               rotate_left
               ·intro w'
                go_simp
                with_reducible rfl
               rotate_left
               ·simp only [Act.put, List.setIfInBounds_toArray, List.set_cons_zero, List.set_cons_succ, i64_w, i32_w]
                rfl
               refine pure_ (i := 5) (N := some 64) (v := ?_) (a' := ?_) #[true, false, true, true, false, true, false, false, false, false] rfl rfl (any_of HT_.out (by kernel_rfl)) (fun _ _ _ h => h) (Or.inl ⟨by rfl, ?_⟩) ?_ ?_
               rotate_left
               ·intro w'
                go_simp
                with_reducible rfl
               rotate_left
               ·simp only [Act.put, List.setIfInBounds_toArray, List.set_cons_zero, List.set_cons_succ, i64_w, i32_w]
                rfl
               refine take_ (i := 1) (N := some 60) (v := ?_) (a' := ?_) #[true, true, true, true, false, true, false, false, false, false] rfl rfl (take_ofW HT_.out HW_.out (by kernel_rfl)) (fun _ _ _ h => h) (Or.inl ⟨by rfl, ?_⟩) hHeld ?_ ?_
               rotate_left
               ·rintro w' ⟨s0, s1, s2, s3, s4, s5, s6, s7, s8, s9, s10, s11⟩
                go_simp
                with_reducible rfl
               rotate_left
               ·simp only [Act.put, List.setIfInBounds_toArray, List.set_cons_zero, List.set_cons_succ, i64_w, i32_w]
                rfl
               refine take_ (i := 6) (N := some 65) (v := ?_) (a' := ?_) #[true, true, true, true, false, true, true, false, false, false] rfl rfl (take_ofW HT_.out HW_.out (by kernel_rfl)) (fun _ _ _ h => h) (Or.inl ⟨by rfl, ?_⟩) hHeld ?_ ?_
               rotate_left
               ·rintro w' ⟨s0, s1, s2, s3, s4, s5, s6, s7, s8, s9, s10, s11⟩
                go_simp
                with_reducible rfl
               rotate_left
               ·simp only [Act.put, List.setIfInBounds_toArray, List.set_cons_zero, List.set_cons_succ, i64_w, i32_w]
                rfl
               refine pure_ (i := 7) (N := some 66) (v := ?_) (a' := ?_) #[true, true, true, true, false, true, true, true, false, false] rfl rfl (any_of HT_.out (by kernel_rfl)) (fun _ _ _ h => h) (Or.inl ⟨by rfl, ?_⟩) ?_ ?_
               rotate_left
               ·intro w'
                go_simp
                with_reducible rfl
               rotate_left
               ·simp only [Act.put, List.setIfInBounds_toArray, List.set_cons_zero, List.set_cons_succ, i64_w, i32_w]
                rfl
               refine one_ (i := 4) (N := some 63) #[true, true, true, true, true, true, true, true, false, false] rfl rfl (one_of HT_.out (by kernel_rfl)) (by decide) (fun K hK => ?_)
               refine goes_ Try.func23 (by kernel_rfl) rfl #[.agg #[.int .i64 a0_0, .int .i64 a0_1, .int .i64 a0_2, .int .i64 a0_3, .int .i64 a0_4, .int .i64 a0_5, .int .i64 a0_6], .int .i64 (wrap64 (x8_2 + 1)), .int .i64 2] (by rfl) rfl rfl (by (try simp only [List.map_toArray, List.map_cons, List.map_nil]); first | done | rfl | (simp only [List.length_drop, List.length_take]; rfl)) ?_
               with_reducible refine (stepstoneref04_Cell.calls a0_0 a0_1 a0_2 a0_3 a0_4 a0_5 a0_6 (wrap64 (x8_2 + 1)) 2 t327 _ A40.out).mono ?_
               rintro e w59 ⟨rfl, hb⟩
               refine ⟨_, rfl, ?_⟩
               have n0_ := Aside0.mk (Kd.R_below (by (with_reducible repeat (first | apply Kd.R_alloc | apply Kd.R_drewN | apply Kd.R_drew)); exact HO_6.out) hb)
               have n1_ := Aside0.mk (Kd.R_below (by (with_reducible repeat (first | apply Kd.R_alloc | apply Kd.R_drewN | apply Kd.R_drew)); exact HO_311007.out) hb)
               have n2_ := Aside0.mk (blk_below (g := gb292) (o := .cells #[.int .i64 a0_0, .int .i64 a0_1, .int .i64 a0_2, .int .i64 a0_3, .int .i64 a0_4, .int .i64 a0_5, .int .i64 a0_6] 23 (0, 0)) (by (with_reducible repeat (first | refine blk_drewN ?_ _ | refine blk_drew ?_ | refine blk_alloc ?_ _)); exact BK292.out) hb)
               have n3_ := Aside0.mk (blk_below (g := gb310) (o := .cells #[.int .i64 t293, .int .i64 t294, .int .i64 t295, .int .i64 t296, .int .i64 t297, .int .i64 t298, .int .i64 t299, .slice Ao11 t300.length co11, .int .i64 t303, .int .i64 t304, .int .i64 t305, .int .u64 t306, .int .u64 t307, .int .u64 t308, .bool t309] 50 (0, 0)) (by (with_reducible repeat (first | refine blk_drewN ?_ _ | refine blk_drew ?_ | refine blk_alloc ?_ _)); exact BK310.out) hb)
               have n4_ := Aside0.mk (blk_below (g := gb321) (o := .cells #[.int .u64 ((rd_T69 l1 x8_2).f0), .int .u64 ((rd_T69 l1 x8_2).f1), .int .i64 ((rd_T69 l1 x8_2).f2), .int .i64 ((rd_T69 l1 x8_2).f3), .bool ((rd_T69 l1 x8_2).f4)] 69 (0, 0)) (by (with_reducible repeat (first | refine blk_drewN ?_ _ | refine blk_drew ?_ | refine blk_alloc ?_ _)); exact BK321.out) hb)
               have n5_ := Aside0.mk (below_step (by repeat (first | (with_reducible first | exact HB.out | apply below_alloc | apply pw_below_drewN | apply below_drew1 | refine below_set ?_ GE292.out | refine below_set ?_ GE310.out | refine below_set ?_ GE321.out) | exact HB.out)) hb)
               clear HO_6
               clear HO_311007
               clear BK292
               clear BK310
               clear BK321
               clear HB
               have HO_6 := n0_
               have HO_311007 := n1_
               have BK292 := n2_
               have BK310 := n3_
               have BK321 := n4_
               have HB := n5_
               clear n0_ n1_ n2_ n3_ n4_ n5_
               (try clear hb)
               (try clear hb2)
               (try clear hk)
               (try clear hi)
               have p43 : 0 ≤ (t327 : Int) := of_decide_eq_true (by first | (with_reducible assumption) | assumption)
               have q43 : (t327 : Int) < ((x6_2.length : Int) : Int) := of_decide_eq_true (by first | (with_reducible assumption) | assumption)
               obtain ⟨hx43_0, hf43_0⟩ := Kd.R_celln 0 HO_6.out (t327 : Int) p43 q43
               replace p43 := eq_true p43
               replace q43 := eq_true q43
               have HP60 := Kd.R_putn HO_6.out (t327 : Int) (IntKind.u64.wrap (2 * ((rd_T69 l1 x8_2).f1)))
               rw [← Ny328.out] at HP60
               have HQ60 := Aside0.mk HP60
               clear HP60
               refine hK.out _ _ ⟨(blk_cell BK292.out 0).trans rfl, (blk_cell BK292.out 1).trans rfl, (blk_cell BK292.out 2).trans rfl, (blk_cell BK292.out 3).trans rfl, (blk_cell BK292.out 4).trans rfl, (blk_cell BK292.out 5).trans rfl, (blk_cell BK292.out 6).trans rfl, (blk_cell BK321.out 0).trans rfl, (blk_cell BK321.out 1).trans rfl, (blk_cell BK321.out 2).trans rfl, (blk_cell BK321.out 3).trans rfl, (blk_cell BK321.out 4).trans rfl⟩ (fun hHeld => ?_)
               clear hK K
               refine norm_ (a' := ?_) ?_ ?_
               rotate_left
               ·show Act.put _ (some 63) _ = _
                simp only [Act.put, List.setIfInBounds_toArray, List.set_cons_zero, List.set_cons_succ, i64_w, i32_w]
                rfl
               refine pure_ (i := 8) (N := some 67) (v := ?_) (a' := ?_) #[true, true, true, true, true, true, true, true, true, false] rfl rfl (any_of HT_.out (by kernel_rfl)) (fun _ _ _ h => h) (Or.inl ⟨by rfl, ?_⟩) ?_ ?_
               rotate_left
               ·intro w'
                go_simp
                with_reducible rfl
               rotate_left
               ·simp only [Act.put, List.setIfInBounds_toArray, List.set_cons_zero, List.set_cons_succ, i64_w, i32_w]
                rfl
               refine last_ (i := 9) (N := none) #[true, true, true, true, true, true, true, true, true, true] rfl rfl (one_of HT_.out (by kernel_rfl)) (by decide) (fun K hK => ?_)
               refine skip_ (w1 := ?_) (by rfl) rfl ?_ ?_
               rotate_left
               ·go_simp
                rfl
               refine hK.out _ _ ?_
               clear hK K
               refine done_ (done_of HT_.out (by kernel_rfl)) ?_
               have NE292 : gb292 ≠ go35 := by
                have h_ := Kd.R_ne HO_6.out BK292.out (by decide)
                intro e_
                exact h_ (by rw [e_]; rfl)
               have NE310 : gb310 ≠ go35 := by
                have h_ := Kd.R_ne HO_6.out BK310.out (by decide)
                intro e_
                exact h_ (by rw [e_]; rfl)
               have NE321 : gb321 ≠ go35 := by
                have h_ := Kd.R_ne HO_6.out BK321.out (by decide)
                intro e_
                exact h_ (by rw [e_]; rfl)
               have hcz61_0 : w59.cell? ⟨gb321, 0, none⟩ = some (.int .u64 ((rd_T69 l1 x8_2).f0)) := (blk_cell BK321.out 0).trans rfl
               have hcz61_1 : w59.cell? ⟨gb321, 1, none⟩ = some (.int .u64 ((rd_T69 l1 x8_2).f1)) := (blk_cell BK321.out 1).trans rfl
               have hcz61_2 : w59.cell? ⟨gb321, 2, none⟩ = some (.int .i64 ((rd_T69 l1 x8_2).f2)) := (blk_cell BK321.out 2).trans rfl
               have hcz61_3 : w59.cell? ⟨gb321, 3, none⟩ = some (.int .i64 ((rd_T69 l1 x8_2).f3)) := (blk_cell BK321.out 3).trans rfl
               have hcz61_4 : w59.cell? ⟨gb321, 4, none⟩ = some (.bool ((rd_T69 l1 x8_2).f4)) := (blk_cell BK321.out 4).trans rfl
               have hfz61_0 := blk_frozen BK321.out 0
               have hfz61_1 := blk_frozen BK321.out 1
               have hfz61_2 := blk_frozen BK321.out 2
               have hfz61_3 := blk_frozen BK321.out 3
               have hfz61_4 := blk_frozen BK321.out 4
               go_upto_if 69 with (fail)
               go_cut [] (fun wc => ∃ (kq : Nat) (x6_43 : List Int), Aside0 (stepstoneref11_Lay.j2 kq l1 x6_43 x8_2 a0_0 a0_1 a0_2 a0_3 a0_4 a0_5 a0_6 ((rd_T69 l1 x8_2).f0) ((rd_T69 l1 x8_2).f1) ((rd_T69 l1 x8_2).f2) ((rd_T69 l1 x8_2).f3) ((rd_T69 l1 x8_2).f4) = some r) ∧ Aside0 (kq ≤ k2) ∧ Aside0 (Kd.R (Kd.int .u64) 40 wc w.heap.size (fun k_ => some k_ ≠ ((.slice Ao11 t300.length co11) : Value).ownBlock) (.slice (some ⟨go35, 0, none⟩) x6_2.length co35) x6_43) ∧ Aside0 (Kd.R (Kd.int .u64) 40 wc w.heap.size (fun k_ => some k_ ≠ ((.slice (some ⟨go35, 0, none⟩) x6_2.length co35) : Value).ownBlock) (.slice Ao11 t300.length co11) t300) ∧ Aside0 (wc.heap[gb292]? = some (.cells #[.int .i64 a0_0, .int .i64 a0_1, .int .i64 a0_2, .int .i64 a0_3, .int .i64 a0_4, .int .i64 a0_5, .int .i64 a0_6] 23 (0, 0))) ∧ Aside0 (wc.heap[gb310]? = some (.cells #[.int .i64 t293, .int .i64 t294, .int .i64 t295, .int .i64 t296, .int .i64 t297, .int .i64 t298, .int .i64 t299, (.slice Ao11 t300.length co11), .int .i64 t303, .int .i64 t304, .int .i64 t305, .int .u64 t306, .int .u64 t307, .int .u64 t308, .bool t309] 50 (0, 0))) ∧ Aside0 (wc.heap[gb321]? = some (.cells #[.int .u64 ((rd_T69 l1 x8_2).f0), .int .u64 ((rd_T69 l1 x8_2).f1), .int .i64 ((rd_T69 l1 x8_2).f2), .int .i64 ((rd_T69 l1 x8_2).f3), .bool ((rd_T69 l1 x8_2).f4)] 69 (0, 0))) ∧ Aside0 (Below w.heap.size w wc))
               case first =>
                have H := HC44.out
                clear HC44
                obtain ⟨bq62, hbq62⟩ : ∃ b_ : Bool, b_ = ((rd_T69 l1 x8_2).f4) := ⟨_, rfl⟩
                replace H : (if bq62 = true then ((stepstoneref04_Cell.f a0_0 a0_1 a0_2 a0_3 a0_4 a0_5 a0_6 (wrap64 (x8_2 + 1)) 2).bind fun t329 => (if 0 ≤ t329 then (if t329 < (x6_2.length : Int) then (stepstoneref11_Lay.j2 k2 l1 (y328.set (t329 : Int).toNat (IntKind.u64.wrap ((IntKind.u64.wrap (2 * ((rd_T69 l1 x8_2).f1))) + 1))) x8_2 a0_0 a0_1 a0_2 a0_3 a0_4 a0_5 a0_6 ((rd_T69 l1 x8_2).f0) ((rd_T69 l1 x8_2).f1) ((rd_T69 l1 x8_2).f2) ((rd_T69 l1 x8_2).f3) bq62) else (none)) else (none))) else (stepstoneref11_Lay.j2 k2 l1 y328 x8_2 a0_0 a0_1 a0_2 a0_3 a0_4 a0_5 a0_6 ((rd_T69 l1 x8_2).f0) ((rd_T69 l1 x8_2).f1) ((rd_T69 l1 x8_2).f2) ((rd_T69 l1 x8_2).f3) bq62)) = some r := by rw [← hbq62] at H; exact H
                have Nbq62 := Aside0.mk hbq62
                clear hbq62
                (try rw [← Nbq62.out])
                by_cases c63 : bq62 = true
                ·subst c63
                 have H1 : ((stepstoneref04_Cell.f a0_0 a0_1 a0_2 a0_3 a0_4 a0_5 a0_6 (wrap64 (x8_2 + 1)) 2).bind fun t329 => (if 0 ≤ t329 then (if t329 < (x6_2.length : Int) then (stepstoneref11_Lay.j2 k2 l1 (y328.set (t329 : Int).toNat (IntKind.u64.wrap ((IntKind.u64.wrap (2 * ((rd_T69 l1 x8_2).f1))) + 1))) x8_2 a0_0 a0_1 a0_2 a0_3 a0_4 a0_5 a0_6 ((rd_T69 l1 x8_2).f0) ((rd_T69 l1 x8_2).f1) ((rd_T69 l1 x8_2).f2) ((rd_T69 l1 x8_2).f3) true) else (none)) else (none))) = some r := by rw [if_pos rfl] at H; exact H
                 clear H
                 have H := H1
                 clear H1
                 replace H := Option.bind_eq_some_iff.mp H
                 obtain ⟨t329, A640, H⟩ := H
                 replace H : (if 0 ≤ t329 then (if t329 < (x6_2.length : Int) then (stepstoneref11_Lay.j2 k2 l1 (y328.set (t329 : Int).toNat (IntKind.u64.wrap ((IntKind.u64.wrap (2 * ((rd_T69 l1 x8_2).f1))) + 1))) x8_2 a0_0 a0_1 a0_2 a0_3 a0_4 a0_5 a0_6 ((rd_T69 l1 x8_2).f0) ((rd_T69 l1 x8_2).f1) ((rd_T69 l1 x8_2).f2) ((rd_T69 l1 x8_2).f3) true) else (none)) else (none)) = some r := H
                 have A64 := Aside0.mk A640
                 clear A640
                 by_cases c65 : 0 ≤ t329
                 ·rw [if_pos c65] at H
                  have c65b0 : decide (0 ≤ t329) = true := decide_eq_true c65
                  clear c65
                  by_cases c66 : t329 < (x6_2.length : Int)
                  ·rw [if_pos c66] at H
                   have c66b0 : decide (t329 < (x6_2.length : Int)) = true := decide_eq_true c66
                   clear c66
                   obtain ⟨y330, hy330⟩ : ∃ y_ : List Int, y_ = (y328.set (t329 : Int).toNat (IntKind.u64.wrap ((IntKind.u64.wrap (2 * ((rd_T69 l1 x8_2).f1))) + 1))) := ⟨_, rfl⟩
                   replace H : (stepstoneref11_Lay.j2 k2 l1 y330 x8_2 a0_0 a0_1 a0_2 a0_3 a0_4 a0_5 a0_6 ((rd_T69 l1 x8_2).f0) ((rd_T69 l1 x8_2).f1) ((rd_T69 l1 x8_2).f2) ((rd_T69 l1 x8_2).f3) true) = some r := by first | (rw [hy330]; with_reducible exact H) | (have H2_ := (Option.bind_some _ _).symm.trans H; rw [hy330]; with_reducible exact H2_) | (have H2_ := (Option.bind_some _ _).symm.trans H; with_reducible exact H2_) | with_reducible exact H | (rw [hy330]; exact H) | exact H
                   have Ny330 := Aside0.mk hy330
                   clear hy330
                   have H' := Aside0.mk H
                   clear H
                   try go_wp2
                   have n0_ : Aside0 (Kd.R (Kd.int .u64) 40 (w59.setCell ⟨go35, (t327 : Int).toNat, none⟩ (.int .u64 (IntKind.u64.wrap (2 * ((rd_T69 l1 x8_2).f1))))) w.heap.size (fun k_ => some k_ ≠ (.slice Ao11 t300.length co11 : Value).ownBlock) (.slice (some ⟨go35, 0, none⟩) x6_2.length co35) y328) := ⟨by (with_reducible repeat (first | apply Kd.R_alloc | apply Kd.R_drewN | apply Kd.R_drew)); exact HQ60.out⟩
                   have n1_ : Aside0 (Kd.R (Kd.int .u64) 40 (w59.setCell ⟨go35, (t327 : Int).toNat, none⟩ (.int .u64 (IntKind.u64.wrap (2 * ((rd_T69 l1 x8_2).f1))))) w.heap.size (fun k_ => some k_ ≠ (.slice (some ⟨go35, 0, none⟩) x6_2.length co35 : Value).ownBlock) (.slice Ao11 t300.length co11) t300) := ⟨by (with_reducible repeat (first | apply Kd.R_alloc | apply Kd.R_drewN | apply Kd.R_drew)); exact Kd.R_mono (Kd.R_far (p := ⟨go35, (t327 : Int).toNat, none⟩) (Kd.R_mono HO_311007.out (fun k_ hk => (⟨hk, fun e_ => hk (by rw [e_]; rfl)⟩ : _ ∧ k_ ≠ go35))) (fun _ hk => hk.2) (.int .u64 (IntKind.u64.wrap (2 * ((rd_T69 l1 x8_2).f1))))) (fun _ hk => hk.1)⟩
                   have n2_ : Aside0 ((w59.setCell ⟨go35, (t327 : Int).toNat, none⟩ (.int .u64 (IntKind.u64.wrap (2 * ((rd_T69 l1 x8_2).f1))))).heap[gb292]? = some (.cells #[.int .i64 a0_0, .int .i64 a0_1, .int .i64 a0_2, .int .i64 a0_3, .int .i64 a0_4, .int .i64 a0_5, .int .i64 a0_6] 23 (0, 0))) := ⟨by (with_reducible repeat (first | refine blk_drewN ?_ _ | refine blk_drew ?_ | refine blk_alloc ?_ _)); refine blk_far ?_ (by have h_ := Kd.R_ne HO_6.out BK292.out (by decide); intro e_; exact h_ (by rw [e_]; rfl)) _; (with_reducible repeat (first | refine blk_drewN ?_ _ | refine blk_drew ?_ | refine blk_alloc ?_ _)); exact BK292.out⟩
                   have n3_ : Aside0 ((w59.setCell ⟨go35, (t327 : Int).toNat, none⟩ (.int .u64 (IntKind.u64.wrap (2 * ((rd_T69 l1 x8_2).f1))))).heap[gb310]? = some (.cells #[.int .i64 t293, .int .i64 t294, .int .i64 t295, .int .i64 t296, .int .i64 t297, .int .i64 t298, .int .i64 t299, .slice Ao11 t300.length co11, .int .i64 t303, .int .i64 t304, .int .i64 t305, .int .u64 t306, .int .u64 t307, .int .u64 t308, .bool t309] 50 (0, 0))) := ⟨by (with_reducible repeat (first | refine blk_drewN ?_ _ | refine blk_drew ?_ | refine blk_alloc ?_ _)); refine blk_far ?_ (by have h_ := Kd.R_ne HO_6.out BK310.out (by decide); intro e_; exact h_ (by rw [e_]; rfl)) _; (with_reducible repeat (first | refine blk_drewN ?_ _ | refine blk_drew ?_ | refine blk_alloc ?_ _)); exact BK310.out⟩
                   have n4_ : Aside0 ((w59.setCell ⟨go35, (t327 : Int).toNat, none⟩ (.int .u64 (IntKind.u64.wrap (2 * ((rd_T69 l1 x8_2).f1))))).heap[gb321]? = some (.cells #[.int .u64 ((rd_T69 l1 x8_2).f0), .int .u64 ((rd_T69 l1 x8_2).f1), .int .i64 ((rd_T69 l1 x8_2).f2), .int .i64 ((rd_T69 l1 x8_2).f3), .bool true] 69 (0, 0))) := ⟨by (with_reducible repeat (first | refine blk_drewN ?_ _ | refine blk_drew ?_ | refine blk_alloc ?_ _)); refine blk_far ?_ (by have h_ := Kd.R_ne HO_6.out BK321.out (by decide); intro e_; exact h_ (by rw [e_]; rfl)) _; (with_reducible repeat (first | refine blk_drewN ?_ _ | refine blk_drew ?_ | refine blk_alloc ?_ _)); (first | exact BK321.out | (have e_ := BK321.out; rw [← Nbq62.out] at e_; exact e_))⟩
                   have n5_ : Aside0 (Below w.heap.size w (w59.setCell ⟨go35, (t327 : Int).toNat, none⟩ (.int .u64 (IntKind.u64.wrap (2 * ((rd_T69 l1 x8_2).f1)))))) := ⟨by repeat (first | (with_reducible first | exact HB.out | apply below_alloc | apply pw_below_drewN | apply below_drew1 | refine below_set ?_ GB35.out | refine below_set ?_ GE292.out | refine below_set ?_ GE310.out | refine below_set ?_ GE321.out) | exact HB.out)⟩
                   (try clear HO_6)
                   (try clear HO_311007)
                   (try clear BK292)
                   (try clear BK310)
                   (try clear BK321)
                   (try clear HB)
                   generalize (w59.setCell ⟨go35, (t327 : Int).toNat, none⟩ (.int .u64 (IntKind.u64.wrap (2 * ((rd_T69 l1 x8_2).f1))))) = w68 at n0_ n1_ n2_ n3_ n4_ n5_ ⊢
                   have HO_6 := n0_
                   have HO_311007 := n1_
                   have BK292 := n2_
                   have BK310 := n3_
                   have BK321 := n4_
                   have HB := n5_
                   clear n0_ n1_ n2_ n3_ n4_ n5_
                   have n0_ := Aside0.mk (Kd.R_drew HO_6.out)
                   have n1_ := Aside0.mk (Kd.R_drew HO_311007.out)
                   have n2_ := Aside0.mk (blk_drew BK292.out)
                   have n3_ := Aside0.mk (blk_drew BK310.out)
                   have n4_ := Aside0.mk (blk_drew BK321.out)
                   have n5_ := Aside0.mk (below_drew1 HB.out)
                   clear HO_6
                   clear HO_311007
                   clear BK292
                   clear BK310
                   clear BK321
                   clear HB
                   have HO_6 := n0_
                   have HO_311007 := n1_
                   have BK292 := n2_
                   have BK310 := n3_
                   have BK321 := n4_
                   have HB := n5_
                   clear n0_ n1_ n2_ n3_ n4_ n5_
                   refine start_ (n := 11) (S := fun w' => w'.cell? ⟨gb292, 0, none⟩ = some (.int .i64 a0_0) ∧ w'.cell? ⟨gb292, 1, none⟩ = some (.int .i64 a0_1) ∧ w'.cell? ⟨gb292, 2, none⟩ = some (.int .i64 a0_2) ∧ w'.cell? ⟨gb292, 3, none⟩ = some (.int .i64 a0_3) ∧ w'.cell? ⟨gb292, 4, none⟩ = some (.int .i64 a0_4) ∧ w'.cell? ⟨gb292, 5, none⟩ = some (.int .i64 a0_5) ∧ w'.cell? ⟨gb292, 6, none⟩ = some (.int .i64 a0_6) ∧ w'.cell? ⟨gb321, 0, none⟩ = some (.int .u64 ((rd_T69 l1 x8_2).f0)) ∧ w'.cell? ⟨gb321, 1, none⟩ = some (.int .u64 ((rd_T69 l1 x8_2).f1)) ∧ w'.cell? ⟨gb321, 2, none⟩ = some (.int .i64 ((rd_T69 l1 x8_2).f2)) ∧ w'.cell? ⟨gb321, 3, none⟩ = some (.int .i64 ((rd_T69 l1 x8_2).f3)) ∧ w'.cell? ⟨gb321, 4, none⟩ = some (.bool true)) (ds := [10]) #[false, false, false, false, false, false, false, false, false, false, false] (by kernel_rfl) rfl rfl ⟨(blk_cell BK292.out 0).trans rfl, (blk_cell BK292.out 1).trans rfl, (blk_cell BK292.out 2).trans rfl, (blk_cell BK292.out 3).trans rfl, (blk_cell BK292.out 4).trans rfl, (blk_cell BK292.out 5).trans rfl, (blk_cell BK292.out 6).trans rfl, (blk_cell BK321.out 0).trans rfl, (blk_cell BK321.out 1).trans rfl, (blk_cell BK321.out 2).trans rfl, (blk_cell BK321.out 3).trans rfl, (blk_cell BK321.out 4).trans rfl⟩ (fun hHeld => ?_); refine with_tabW stepstoneref11_Lay.tab15 stepstoneref11_Lay.bits15 (fun HT_ HW_ => ?_)
                   generalize w68.drew = w69 at HO_6 HO_311007 BK292 BK310 BK321 HB HQ60 hHeld ⊢
                   refine pure_ (i := 0) (N := some 70) (v := ?_) (a' := ?_) #[true, false, false, false, false, false, false, false, false, false, false] rfl rfl (any_of HT_.out (by kernel_rfl)) (fun _ _ _ h => h) (Or.inl ⟨by rfl, ?_⟩) ?_ ?_
                   rotate_left
                   ·intro w'
                    go_simp
                    with_reducible rfl
                   rotate_left
                   ·simp only [Act.put, List.setIfInBounds_toArray, List.set_cons_zero, List.set_cons_succ, i64_w, i32_w]
                    rfl
                   refine pure_ (i := 2) (N := some 72) (v := ?_) (a' := ?_) #[true, false, true, false, false, false, false, false, false, false, false] rfl rfl (any_of HT_.out (by kernel_rfl)) (fun _ _ _ h => h) (Or.inl ⟨by rfl, ?_⟩) ?_ ?_
                   rotate_left
                   ·intro w'
                    go_simp
                    with_reducible rfl
                   rotate_left
                   ·simp only [Act.put, List.setIfInBounds_toArray, List.set_cons_zero, List.set_cons_succ, i64_w, i32_w]
                    rfl
                   refine pure_ (i := 3) (N := some 73) (v := ?_) (a' := ?_) #[true, false, true, true, false, false, false, false, false, false, false] rfl rfl (any_of HT_.out (by kernel_rfl)) (fun _ _ _ h => h) (Or.inl ⟨by rfl, ?_⟩) ?_ ?_
                   rotate_left
                   ·intro w'
                    go_simp
                    with_reducible rfl
                   rotate_left
                   ·simp only [Act.put, List.setIfInBounds_toArray, List.set_cons_zero, List.set_cons_succ, i64_w, i32_w]
                    rfl
                   refine pure_ (i := 5) (N := some 75) (v := ?_) (a' := ?_) #[true, false, true, true, false, true, false, false, false, false, false] rfl rfl (any_of HT_.out (by kernel_rfl)) (fun _ _ _ h => h) (Or.inl ⟨by rfl, ?_⟩) ?_ ?_
                   rotate_left
                   ·intro w'
                    go_simp
                    with_reducible rfl
                   rotate_left
                   ·simp only [Act.put, List.setIfInBounds_toArray, List.set_cons_zero, List.set_cons_succ, i64_w, i32_w]
                    rfl
                   refine take_ (i := 1) (N := some 71) (v := ?_) (a' := ?_) #[true, true, true, true, false, true, false, false, false, false, false] rfl rfl (take_ofW HT_.out HW_.out (by kernel_rfl)) (fun _ _ _ h => h) (Or.inl ⟨by rfl, ?_⟩) hHeld ?_ ?_
                   rotate_left
                   ·rintro w' ⟨s0, s1, s2, s3, s4, s5, s6, s7, s8, s9, s10, s11⟩
                    go_simp
                    with_reducible rfl
                   rotate_left
                   ·simp only [Act.put, List.setIfInBounds_toArray, List.set_cons_zero, List.set_cons_succ, i64_w, i32_w]
                    rfl
                   refine take_ (i := 6) (N := some 76) (v := ?_) (a' := ?_) #[true, true, true, true, false, true, true, false, false, false, false] rfl rfl (take_ofW HT_.out HW_.out (by kernel_rfl)) (fun _ _ _ h => h) (Or.inl ⟨by rfl, ?_⟩) hHeld ?_ ?_
                   rotate_left
                   ·rintro w' ⟨s0, s1, s2, s3, s4, s5, s6, s7, s8, s9, s10, s11⟩
                    go_simp
                    with_reducible rfl
                   rotate_left
                   ·simp only [Act.put, List.setIfInBounds_toArray, List.set_cons_zero, List.set_cons_succ, i64_w, i32_w]
                    rfl
                   refine pure_ (i := 7) (N := some 77) (v := ?_) (a' := ?_) #[true, true, true, true, false, true, true, true, false, false, false] rfl rfl (any_of HT_.out (by kernel_rfl)) (fun _ _ _ h => h) (Or.inl ⟨by rfl, ?_⟩) ?_ ?_
                   rotate_left
                   ·intro w'
                    go_simp
                    with_reducible rfl
                   rotate_left
                   ·simp only [Act.put, List.setIfInBounds_toArray, List.set_cons_zero, List.set_cons_succ, i64_w, i32_w]
                    rfl
                   refine pure_ (i := 8) (N := some 78) (v := ?_) (a' := ?_) #[true, true, true, true, false, true, true, true, true, false, false] rfl rfl (any_of HT_.out (by kernel_rfl)) (fun _ _ _ h => h) (Or.inl ⟨by rfl, ?_⟩) ?_ ?_
                   rotate_left
                   ·intro w'
                    go_simp
                    with_reducible rfl
                   rotate_left
                   ·simp only [Act.put, List.setIfInBounds_toArray, List.set_cons_zero, List.set_cons_succ, i64_w, i32_w]
                    rfl
                   refine one_ (i := 4) (N := some 74) #[true, true, true, true, true, true, true, true, true, false, false] rfl rfl (one_of HT_.out (by kernel_rfl)) (by decide) (fun K hK => ?_)
                   refine goes_ Try.func23 (by kernel_rfl) rfl #[.agg #[.int .i64 a0_0, .int .i64 a0_1, .int .i64 a0_2, .int .i64 a0_3, .int .i64 a0_4, .int .i64 a0_5, .int .i64 a0_6], .int .i64 (wrap64 (x8_2 + 1)), .int .i64 2] (by rfl) rfl rfl (by (try simp only [List.map_toArray, List.map_cons, List.map_nil]); first | done | rfl | (simp only [List.length_drop, List.length_take]; rfl)) ?_
                   with_reducible refine (stepstoneref04_Cell.calls a0_0 a0_1 a0_2 a0_3 a0_4 a0_5 a0_6 (wrap64 (x8_2 + 1)) 2 t329 _ A64.out).mono ?_
                   rintro e w70 ⟨rfl, hb⟩
                   refine ⟨_, rfl, ?_⟩
                   have n0_ := Aside0.mk (Kd.R_below (by (with_reducible repeat (first | apply Kd.R_alloc | apply Kd.R_drewN | apply Kd.R_drew)); exact HO_6.out) hb)
                   have n1_ := Aside0.mk (Kd.R_below (by (with_reducible repeat (first | apply Kd.R_alloc | apply Kd.R_drewN | apply Kd.R_drew)); exact HO_311007.out) hb)
                   have n2_ := Aside0.mk (blk_below (g := gb292) (o := .cells #[.int .i64 a0_0, .int .i64 a0_1, .int .i64 a0_2, .int .i64 a0_3, .int .i64 a0_4, .int .i64 a0_5, .int .i64 a0_6] 23 (0, 0)) (by (with_reducible repeat (first | refine blk_drewN ?_ _ | refine blk_drew ?_ | refine blk_alloc ?_ _)); exact BK292.out) hb)
                   have n3_ := Aside0.mk (blk_below (g := gb310) (o := .cells #[.int .i64 t293, .int .i64 t294, .int .i64 t295, .int .i64 t296, .int .i64 t297, .int .i64 t298, .int .i64 t299, .slice Ao11 t300.length co11, .int .i64 t303, .int .i64 t304, .int .i64 t305, .int .u64 t306, .int .u64 t307, .int .u64 t308, .bool t309] 50 (0, 0)) (by (with_reducible repeat (first | refine blk_drewN ?_ _ | refine blk_drew ?_ | refine blk_alloc ?_ _)); exact BK310.out) hb)
                   have n4_ := Aside0.mk (blk_below (g := gb321) (o := .cells #[.int .u64 ((rd_T69 l1 x8_2).f0), .int .u64 ((rd_T69 l1 x8_2).f1), .int .i64 ((rd_T69 l1 x8_2).f2), .int .i64 ((rd_T69 l1 x8_2).f3), .bool true] 69 (0, 0)) (by (with_reducible repeat (first | refine blk_drewN ?_ _ | refine blk_drew ?_ | refine blk_alloc ?_ _)); exact BK321.out) hb)
                   have n5_ := Aside0.mk (below_step (by repeat (first | (with_reducible first | exact HB.out | apply below_alloc | apply pw_below_drewN | apply below_drew1 | refine below_set ?_ GE292.out | refine below_set ?_ GE310.out | refine below_set ?_ GE321.out) | exact HB.out)) hb)
                   clear HO_6
                   clear HO_311007
                   clear BK292
                   clear BK310
                   clear BK321
                   clear HB
                   have HO_6 := n0_
                   have HO_311007 := n1_
                   have BK292 := n2_
                   have BK310 := n3_
                   have BK321 := n4_
                   have HB := n5_
                   clear n0_ n1_ n2_ n3_ n4_ n5_
                   (try clear hb)
                   (try clear hb2)
                   (try clear hk)
                   (try clear hi)
                   have p67 : 0 ≤ (t329 : Int) := of_decide_eq_true (by first | (with_reducible assumption) | assumption)
                   have q67 : (t329 : Int) < ((x6_2.length : Int) : Int) := of_decide_eq_true (by first | (with_reducible assumption) | assumption)
                   obtain ⟨hx67_0, hf67_0⟩ := Kd.R_celln 0 HO_6.out (t329 : Int) p67 q67
                   replace p67 := eq_true p67
                   replace q67 := eq_true q67
                   have HP71 := Kd.R_putn HO_6.out (t329 : Int) (IntKind.u64.wrap ((IntKind.u64.wrap (2 * ((rd_T69 l1 x8_2).f1))) + 1))
                   rw [← Ny330.out] at HP71
                   have HQ71 := Aside0.mk HP71
                   clear HP71
                   refine hK.out _ _ ⟨(blk_cell BK292.out 0).trans rfl, (blk_cell BK292.out 1).trans rfl, (blk_cell BK292.out 2).trans rfl, (blk_cell BK292.out 3).trans rfl, (blk_cell BK292.out 4).trans rfl, (blk_cell BK292.out 5).trans rfl, (blk_cell BK292.out 6).trans rfl, (blk_cell BK321.out 0).trans rfl, (blk_cell BK321.out 1).trans rfl, (blk_cell BK321.out 2).trans rfl, (blk_cell BK321.out 3).trans rfl, (blk_cell BK321.out 4).trans rfl⟩ (fun hHeld => ?_)
                   clear hK K
                   refine norm_ (a' := ?_) ?_ ?_
                   rotate_left
                   ·show Act.put _ (some 74) _ = _
                    simp only [Act.put, List.setIfInBounds_toArray, List.set_cons_zero, List.set_cons_succ, i64_w, i32_w]
                    rfl
                   refine pure_ (i := 9) (N := some 79) (v := ?_) (a' := ?_) #[true, true, true, true, true, true, true, true, true, true, false] rfl rfl (any_of HT_.out (by kernel_rfl)) (fun _ _ _ h => h) (Or.inl ⟨by rfl, ?_⟩) ?_ ?_
                   rotate_left
                   ·intro w'
                    go_simp
                    with_reducible rfl
                   rotate_left
                   ·simp only [Act.put, List.setIfInBounds_toArray, List.set_cons_zero, List.set_cons_succ, i64_w, i32_w]
                    rfl
                   refine last_ (i := 10) (N := none) #[true, true, true, true, true, true, true, true, true, true, true] rfl rfl (one_of HT_.out (by kernel_rfl)) (by decide) (fun K hK => ?_)
                   refine skip_ (w1 := ?_) (by rfl) rfl ?_ ?_
                   rotate_left
                   ·go_simp
                    rfl
                   refine hK.out _ _ ?_
                   clear hK K
                   refine done_ (done_of HT_.out (by kernel_rfl)) ?_
                   try go_wp2
                   go_meet
                   case rel => exact ⟨_, (y330), (by first | exact H' | (have e_ := H'.out; rw [Nbq62.out] at e_; exact Aside0.mk e_)), ⟨by have := HK1.out; have := HK2.out; first | omega | exact Nat.le_refl _⟩, ⟨by (with_reducible repeat (first | apply Kd.R_alloc | apply Kd.R_drewN | apply Kd.R_drew)); exact HQ71.out⟩, ⟨by (with_reducible repeat (first | apply Kd.R_alloc | apply Kd.R_drewN | apply Kd.R_drew)); exact Kd.R_mono (Kd.R_far (p := ⟨go35, (t329 : Int).toNat, none⟩) (Kd.R_mono HO_311007.out (fun k_ hk => (⟨hk, fun e_ => hk (by rw [e_]; rfl)⟩ : _ ∧ k_ ≠ go35))) (fun _ hk => hk.2) (.int .u64 (IntKind.u64.wrap ((IntKind.u64.wrap (2 * ((rd_T69 l1 x8_2).f1))) + 1)))) (fun _ hk => hk.1)⟩, ⟨by (with_reducible repeat (first | refine blk_drewN ?_ _ | refine blk_drew ?_ | refine blk_alloc ?_ _)); refine blk_far ?_ (by have h_ := Kd.R_ne HO_6.out BK292.out (by decide); intro e_; exact h_ (by rw [e_]; rfl)) _; (with_reducible repeat (first | refine blk_drewN ?_ _ | refine blk_drew ?_ | refine blk_alloc ?_ _)); exact BK292.out⟩, ⟨by (with_reducible repeat (first | refine blk_drewN ?_ _ | refine blk_drew ?_ | refine blk_alloc ?_ _)); refine blk_far ?_ (by have h_ := Kd.R_ne HO_6.out BK310.out (by decide); intro e_; exact h_ (by rw [e_]; rfl)) _; (with_reducible repeat (first | refine blk_drewN ?_ _ | refine blk_drew ?_ | refine blk_alloc ?_ _)); exact BK310.out⟩, ⟨by (with_reducible repeat (first | refine blk_drewN ?_ _ | refine blk_drew ?_ | refine blk_alloc ?_ _)); refine blk_far ?_ (by have h_ := Kd.R_ne HO_6.out BK321.out (by decide); intro e_; exact h_ (by rw [e_]; rfl)) _; (with_reducible repeat (first | refine blk_drewN ?_ _ | refine blk_drew ?_ | refine blk_alloc ?_ _)); (first | exact BK321.out | (have e_ := BK321.out; rw [Nbq62.out] at e_; exact e_))⟩, ⟨by repeat (first | (with_reducible first | exact HB.out | apply below_alloc | apply pw_below_drewN | apply below_drew1 | refine below_set ?_ GB35.out | refine below_set ?_ GE292.out | refine below_set ?_ GE310.out | refine below_set ?_ GE321.out) | exact HB.out)⟩⟩
                  ·rw [if_neg c66] at H
                   exact absurd H (by simp)
                 ·rw [if_neg c65] at H
                  exact absurd H (by simp)
                ·replace c63 := Bool.eq_false_iff.mpr c63
                 subst c63
                 have H1 : (stepstoneref11_Lay.j2 k2 l1 y328 x8_2 a0_0 a0_1 a0_2 a0_3 a0_4 a0_5 a0_6 ((rd_T69 l1 x8_2).f0) ((rd_T69 l1 x8_2).f1) ((rd_T69 l1 x8_2).f2) ((rd_T69 l1 x8_2).f3) false) = some r := by rw [if_neg (show ¬ (false = true) by decide)] at H; exact H
                 clear H
                 have H := H1
                 clear H1
                 have H' := Aside0.mk H
                 clear H
                 go_wp2
                 go_meet
                 case rel => exact ⟨_, (y328), (by first | exact H' | (have e_ := H'.out; rw [Nbq62.out] at e_; exact Aside0.mk e_)), ⟨by have := HK1.out; have := HK2.out; first | omega | exact Nat.le_refl _⟩, ⟨by (with_reducible repeat (first | apply Kd.R_alloc | apply Kd.R_drewN | apply Kd.R_drew)); exact HQ60.out⟩, ⟨by (with_reducible repeat (first | apply Kd.R_alloc | apply Kd.R_drewN | apply Kd.R_drew)); exact Kd.R_mono (Kd.R_far (p := ⟨go35, (t327 : Int).toNat, none⟩) (Kd.R_mono HO_311007.out (fun k_ hk => (⟨hk, fun e_ => hk (by rw [e_]; rfl)⟩ : _ ∧ k_ ≠ go35))) (fun _ hk => hk.2) (.int .u64 (IntKind.u64.wrap (2 * ((rd_T69 l1 x8_2).f1))))) (fun _ hk => hk.1)⟩, ⟨by (with_reducible repeat (first | refine blk_drewN ?_ _ | refine blk_drew ?_ | refine blk_alloc ?_ _)); refine blk_far ?_ (by have h_ := Kd.R_ne HO_6.out BK292.out (by decide); intro e_; exact h_ (by rw [e_]; rfl)) _; (with_reducible repeat (first | refine blk_drewN ?_ _ | refine blk_drew ?_ | refine blk_alloc ?_ _)); exact BK292.out⟩, ⟨by (with_reducible repeat (first | refine blk_drewN ?_ _ | refine blk_drew ?_ | refine blk_alloc ?_ _)); refine blk_far ?_ (by have h_ := Kd.R_ne HO_6.out BK310.out (by decide); intro e_; exact h_ (by rw [e_]; rfl)) _; (with_reducible repeat (first | refine blk_drewN ?_ _ | refine blk_drew ?_ | refine blk_alloc ?_ _)); exact BK310.out⟩, ⟨by (with_reducible repeat (first | refine blk_drewN ?_ _ | refine blk_drew ?_ | refine blk_alloc ?_ _)); refine blk_far ?_ (by have h_ := Kd.R_ne HO_6.out BK321.out (by decide); intro e_; exact h_ (by rw [e_]; rfl)) _; (with_reducible repeat (first | refine blk_drewN ?_ _ | refine blk_drew ?_ | refine blk_alloc ?_ _)); (first | exact BK321.out | (have e_ := BK321.out; rw [Nbq62.out] at e_; exact e_))⟩, ⟨by repeat (first | (with_reducible first | exact HB.out | apply below_alloc | apply pw_below_drewN | apply below_drew1 | refine below_set ?_ GB35.out | refine below_set ?_ GE292.out | refine below_set ?_ GE310.out | refine below_set ?_ GE321.out) | exact HB.out)⟩⟩
               case rest =>
                clear HC44
                try clear c2
                try clear p2
                try clear c3
                try clear p3
                try clear q3
                try clear hx3
                try clear hf3
                try clear c4
                try clear p4
                try clear q4
                try clear hx4
                try clear hf4
                try clear c6
                try clear p6
                try clear q6
                try clear hx6
                try clear hf6
                try clear c23
                try clear c29
                try clear c29b0
                try clear c30
                try clear c30b0
                try clear p32
                try clear q32
                try clear hx32
                try clear c33
                try clear c33b0
                try clear c34
                try clear c34b0
                try clear p35
                try clear q35
                try clear hx35
                try clear hf35
                try clear c37
                try clear c37b0
                try clear c38
                try clear c38b0
                try clear p39
                try clear q39
                try clear hx39
                try clear hf39
                try clear c41
                try clear c41b0
                try clear c42
                try clear c42b0
                try clear p43
                try clear q43
                try clear hx43
                try clear hf43
                try clear c46
                try clear c47
                try clear c49
                try clear c61
                try clear q62
                try clear c63
                try clear p64
                try clear c65
                try clear c65b0
                try clear c66
                try clear c66b0
                try clear p67
                try clear q67
                try clear hx67
                try clear hf67
                try clear hcz48_0
                try clear hcz48_1
                try clear hcz48_2
                try clear hcz48_3
                try clear hcz48_4
                try clear hcz50_0
                try clear hcz50_1
                try clear hcz50_2
                try clear hcz50_3
                try clear hcz50_4
                try clear hcz50_5
                try clear hcz50_6
                try clear hcz61_0
                try clear hcz61_1
                try clear hcz61_2
                try clear hcz61_3
                try clear hcz61_4
                try clear hfz48_0
                try clear hfz48_1
                try clear hfz48_2
                try clear hfz48_3
                try clear hfz48_4
                try clear hfz50_0
                try clear hfz50_1
                try clear hfz50_2
                try clear hfz50_3
                try clear hfz50_4
                try clear hfz50_5
                try clear hfz50_6
                try clear hfz61_0
                try clear hfz61_1
                try clear hfz61_2
                try clear hfz61_3
                try clear hfz61_4
                try clear hx320_0
                try clear hx320_1
                try clear hx320_2
                try clear hx320_3
                try clear hx320_4
                try clear hx35_0
                try clear hx39_0
                try clear hx43_0
                try clear hx67_0
                try clear p320
                try clear p35
                try clear p39
                try clear p43
                try clear p67
                try clear q320
                try clear q35
                try clear q39
                try clear q43
                try clear q67
                obtain ⟨kq, x6_43, HA, HJ43, HO_6, HO_311007, BK292, BK310, BK321, HB⟩ := hcut
                have hl6_43 := (Kd.R_reads' HO_6.out).1
                rw [hl6_43] at HO_6
                (try simp only [hl6_43])
                (try simp only [hl6_43] at BK292)
                (try simp only [hl6_43] at BK310)
                (try simp only [hl6_43] at BK321)
                (try simp only [hl6_43] at HO_311007)
                cases kq with
                | zero => exact absurd HA.out (by simp [stepstoneref11_Lay.j2])
                | succ kj43 =>
                 have H := HA.out
                 clear HA
                 simp only [stepstoneref11_Lay.j2] at H
                 replace H := Option.bind_eq_some_iff.mp H
                 obtain ⟨t331, A720, H⟩ := H
                 replace H : (if 0 ≤ t331 then (if t331 < (x6_43.length : Int) then ((stepstoneref04_Cell.f a0_0 a0_1 a0_2 a0_3 a0_4 a0_5 a0_6 (wrap64 (x8_2 + 1)) 4).bind fun t333 => (if 0 ≤ t333 then (if t333 < (x6_43.length : Int) then ((stepstoneref04_Cell.f a0_0 a0_1 a0_2 a0_3 a0_4 a0_5 a0_6 (wrap64 (x8_2 + 1)) 5).bind fun t335 => (if 0 ≤ t335 then (if t335 < (x6_43.length : Int) then (stepstoneref11_Lay.l2 kj43 l1 (((x6_43.set (t331 : Int).toNat 1).set (t333 : Int).toNat (IntKind.u64.wrap (((rd_T69 l1 x8_2).f2)))).set (t335 : Int).toNat 1) x8_2 0 a0_0 a0_1 a0_2 a0_3 a0_4 a0_5 a0_6 ((rd_T69 l1 x8_2).f0) ((rd_T69 l1 x8_2).f1) ((rd_T69 l1 x8_2).f2) ((rd_T69 l1 x8_2).f3) ((rd_T69 l1 x8_2).f4)) else (none)) else (none))) else (none)) else (none))) else (none)) else (none)) = some r := H
                 have A72 := Aside0.mk A720
                 clear A720
                 by_cases c73 : 0 ≤ t331
                 ·rw [if_pos c73] at H
                  have c73b0 : decide (0 ≤ t331) = true := decide_eq_true c73
                  clear c73
                  by_cases c74 : t331 < (x6_43.length : Int)
                  ·rw [if_pos c74] at H
                   have c74b0 : decide (t331 < (x6_43.length : Int)) = true := decide_eq_true c74
                   clear c74
                   obtain ⟨y332, hy332⟩ : ∃ y_ : List Int, y_ = (x6_43.set (t331 : Int).toNat 1) := ⟨_, rfl⟩
                   replace H : ((stepstoneref04_Cell.f a0_0 a0_1 a0_2 a0_3 a0_4 a0_5 a0_6 (wrap64 (x8_2 + 1)) 4).bind fun t333 => (if 0 ≤ t333 then (if t333 < (x6_43.length : Int) then ((stepstoneref04_Cell.f a0_0 a0_1 a0_2 a0_3 a0_4 a0_5 a0_6 (wrap64 (x8_2 + 1)) 5).bind fun t335 => (if 0 ≤ t335 then (if t335 < (x6_43.length : Int) then (stepstoneref11_Lay.l2 kj43 l1 ((y332.set (t333 : Int).toNat (IntKind.u64.wrap (((rd_T69 l1 x8_2).f2)))).set (t335 : Int).toNat 1) x8_2 0 a0_0 a0_1 a0_2 a0_3 a0_4 a0_5 a0_6 ((rd_T69 l1 x8_2).f0) ((rd_T69 l1 x8_2).f1) ((rd_T69 l1 x8_2).f2) ((rd_T69 l1 x8_2).f3) ((rd_T69 l1 x8_2).f4)) else (none)) else (none))) else (none)) else (none))) = some r := by first | (rw [hy332]; with_reducible exact H) | (have H2_ := (Option.bind_some _ _).symm.trans H; rw [hy332]; with_reducible exact H2_) | (have H2_ := (Option.bind_some _ _).symm.trans H; with_reducible exact H2_) | with_reducible exact H | (rw [hy332]; exact H) | exact H
                   have Ny332 := Aside0.mk hy332
                   clear hy332
                   replace H := Option.bind_eq_some_iff.mp H
                   obtain ⟨t333, A760, H⟩ := H
                   replace H : (if 0 ≤ t333 then (if t333 < (x6_43.length : Int) then ((stepstoneref04_Cell.f a0_0 a0_1 a0_2 a0_3 a0_4 a0_5 a0_6 (wrap64 (x8_2 + 1)) 5).bind fun t335 => (if 0 ≤ t335 then (if t335 < (x6_43.length : Int) then (stepstoneref11_Lay.l2 kj43 l1 ((y332.set (t333 : Int).toNat (IntKind.u64.wrap (((rd_T69 l1 x8_2).f2)))).set (t335 : Int).toNat 1) x8_2 0 a0_0 a0_1 a0_2 a0_3 a0_4 a0_5 a0_6 ((rd_T69 l1 x8_2).f0) ((rd_T69 l1 x8_2).f1) ((rd_T69 l1 x8_2).f2) ((rd_T69 l1 x8_2).f3) ((rd_T69 l1 x8_2).f4)) else (none)) else (none))) else (none)) else (none)) = some r := H
                   have A76 := Aside0.mk A760
                   clear A760
                   by_cases c77 : 0 ≤ t333
                   ·rw [if_pos c77] at H
                    have c77b0 : decide (0 ≤ t333) = true := decide_eq_true c77
                    clear c77
                    by_cases c78 : t333 < (x6_43.length : Int)
                    ·rw [if_pos c78] at H
                     have c78b0 : decide (t333 < (x6_43.length : Int)) = true := decide_eq_true c78
                     clear c78
                     obtain ⟨y334, hy334⟩ : ∃ y_ : List Int, y_ = (y332.set (t333 : Int).toNat (IntKind.u64.wrap (((rd_T69 l1 x8_2).f2)))) := ⟨_, rfl⟩
                     replace H : ((stepstoneref04_Cell.f a0_0 a0_1 a0_2 a0_3 a0_4 a0_5 a0_6 (wrap64 (x8_2 + 1)) 5).bind fun t335 => (if 0 ≤ t335 then (if t335 < (x6_43.length : Int) then (stepstoneref11_Lay.l2 kj43 l1 (y334.set (t335 : Int).toNat 1) x8_2 0 a0_0 a0_1 a0_2 a0_3 a0_4 a0_5 a0_6 ((rd_T69 l1 x8_2).f0) ((rd_T69 l1 x8_2).f1) ((rd_T69 l1 x8_2).f2) ((rd_T69 l1 x8_2).f3) ((rd_T69 l1 x8_2).f4)) else (none)) else (none))) = some r := by first | (rw [hy334]; with_reducible exact H) | (have H2_ := (Option.bind_some _ _).symm.trans H; rw [hy334]; with_reducible exact H2_) | (have H2_ := (Option.bind_some _ _).symm.trans H; with_reducible exact H2_) | with_reducible exact H | (rw [hy334]; exact H) | exact H
                     have Ny334 := Aside0.mk hy334
                     clear hy334
                     replace H := Option.bind_eq_some_iff.mp H
                     obtain ⟨t335, A800, H⟩ := H
                     replace H : (if 0 ≤ t335 then (if t335 < (x6_43.length : Int) then (stepstoneref11_Lay.l2 kj43 l1 (y334.set (t335 : Int).toNat 1) x8_2 0 a0_0 a0_1 a0_2 a0_3 a0_4 a0_5 a0_6 ((rd_T69 l1 x8_2).f0) ((rd_T69 l1 x8_2).f1) ((rd_T69 l1 x8_2).f2) ((rd_T69 l1 x8_2).f3) ((rd_T69 l1 x8_2).f4)) else (none)) else (none)) = some r := H
                     have A80 := Aside0.mk A800
                     clear A800
                     by_cases c81 : 0 ≤ t335
                     ·rw [if_pos c81] at H
                      have c81b0 : decide (0 ≤ t335) = true := decide_eq_true c81
                      clear c81
                      by_cases c82 : t335 < (x6_43.length : Int)
                      ·rw [if_pos c82] at H
                       have c82b0 : decide (t335 < (x6_43.length : Int)) = true := decide_eq_true c82
                       clear c82
                       obtain ⟨y336, hy336⟩ : ∃ y_ : List Int, y_ = (y334.set (t335 : Int).toNat 1) := ⟨_, rfl⟩
                       replace H : (stepstoneref11_Lay.l2 kj43 l1 y336 x8_2 0 a0_0 a0_1 a0_2 a0_3 a0_4 a0_5 a0_6 ((rd_T69 l1 x8_2).f0) ((rd_T69 l1 x8_2).f1) ((rd_T69 l1 x8_2).f2) ((rd_T69 l1 x8_2).f3) ((rd_T69 l1 x8_2).f4)) = some r := by first | (rw [hy336]; with_reducible exact H) | (have H2_ := (Option.bind_some _ _).symm.trans H; rw [hy336]; with_reducible exact H2_) | (have H2_ := (Option.bind_some _ _).symm.trans H; with_reducible exact H2_) | with_reducible exact H | (rw [hy336]; exact H) | exact H
                       have Ny336 := Aside0.mk hy336
                       clear hy336
                       have H' := Aside0.mk H
                       clear H
                       have hnb84 := NB292_310.out
                       have hnc84 := NB310_292.out
                       have hnb85 := NB292_321.out
                       have hnc85 := NB321_292.out
                       have hcz86_0 : wc.cell? ⟨gb292, 0, none⟩ = some (.int .i64 a0_0) := (blk_cell BK292.out 0).trans rfl
                       have hcz86_1 : wc.cell? ⟨gb292, 1, none⟩ = some (.int .i64 a0_1) := (blk_cell BK292.out 1).trans rfl
                       have hcz86_2 : wc.cell? ⟨gb292, 2, none⟩ = some (.int .i64 a0_2) := (blk_cell BK292.out 2).trans rfl
                       have hcz86_3 : wc.cell? ⟨gb292, 3, none⟩ = some (.int .i64 a0_3) := (blk_cell BK292.out 3).trans rfl
                       have hcz86_4 : wc.cell? ⟨gb292, 4, none⟩ = some (.int .i64 a0_4) := (blk_cell BK292.out 4).trans rfl
                       have hcz86_5 : wc.cell? ⟨gb292, 5, none⟩ = some (.int .i64 a0_5) := (blk_cell BK292.out 5).trans rfl
                       have hcz86_6 : wc.cell? ⟨gb292, 6, none⟩ = some (.int .i64 a0_6) := (blk_cell BK292.out 6).trans rfl
                       have hfz86_0 := blk_frozen BK292.out 0
                       have hfz86_1 := blk_frozen BK292.out 1
                       have hfz86_2 := blk_frozen BK292.out 2
                       have hfz86_3 := blk_frozen BK292.out 3
                       have hfz86_4 := blk_frozen BK292.out 4
                       have hfz86_5 := blk_frozen BK292.out 5
                       have hfz86_6 := blk_frozen BK292.out 6
                       try go_wp2_with (first | ((with_reducible refine gate_callee (f := 23) rfl ?_); refine goesL_ (some 84) rfl rfl Try.func23 (by kernel_rfl) rfl #[.agg #[.int .i64 a0_0, .int .i64 a0_1, .int .i64 a0_2, .int .i64 a0_3, .int .i64 a0_4, .int .i64 a0_5, .int .i64 a0_6], .int .i64 (wrap64 (x8_2 + 1)), .int .i64 3] rfl (by (try simp only [List.map_toArray, List.map_cons, List.map_nil]); first | done | rfl | (simp only [List.length_drop, List.length_take]; rfl)) ?_; (with_reducible refine (stepstoneref04_Cell.calls a0_0 a0_1 a0_2 a0_3 a0_4 a0_5 a0_6 (wrap64 (x8_2 + 1)) 3 t331 _ A72.out).mono ?_); rintro e w87 ⟨rfl, hb⟩; refine ⟨_, rfl, ?_⟩; have n0_ := Aside0.mk (Kd.R_below (by (with_reducible repeat (first | apply Kd.R_alloc | apply Kd.R_drewN | apply Kd.R_drew)); exact HO_6.out) hb); have n1_ := Aside0.mk (Kd.R_below (by (with_reducible repeat (first | apply Kd.R_alloc | apply Kd.R_drewN | apply Kd.R_drew)); exact HO_311007.out) hb); have n2_ := Aside0.mk (blk_below (g := gb292) (o := .cells #[.int .i64 a0_0, .int .i64 a0_1, .int .i64 a0_2, .int .i64 a0_3, .int .i64 a0_4, .int .i64 a0_5, .int .i64 a0_6] 23 (0, 0)) (by (with_reducible repeat (first | refine blk_drewN ?_ _ | refine blk_drew ?_ | refine blk_alloc ?_ _)); exact BK292.out) hb); have n3_ := Aside0.mk (blk_below (g := gb310) (o := .cells #[.int .i64 t293, .int .i64 t294, .int .i64 t295, .int .i64 t296, .int .i64 t297, .int .i64 t298, .int .i64 t299, .slice Ao11 t300.length co11, .int .i64 t303, .int .i64 t304, .int .i64 t305, .int .u64 t306, .int .u64 t307, .int .u64 t308, .bool t309] 50 (0, 0)) (by (with_reducible repeat (first | refine blk_drewN ?_ _ | refine blk_drew ?_ | refine blk_alloc ?_ _)); exact BK310.out) hb); have n4_ := Aside0.mk (blk_below (g := gb321) (o := .cells #[.int .u64 ((rd_T69 l1 x8_2).f0), .int .u64 ((rd_T69 l1 x8_2).f1), .int .i64 ((rd_T69 l1 x8_2).f2), .int .i64 ((rd_T69 l1 x8_2).f3), .bool ((rd_T69 l1 x8_2).f4)] 69 (0, 0)) (by (with_reducible repeat (first | refine blk_drewN ?_ _ | refine blk_drew ?_ | refine blk_alloc ?_ _)); exact BK321.out) hb); have n5_ := Aside0.mk (below_step (by repeat (first | (with_reducible first | exact HB.out | apply below_alloc | apply pw_below_drewN | apply below_drew1 | refine below_set ?_ GE292.out | refine below_set ?_ GE310.out | refine below_set ?_ GE321.out) | exact HB.out)) hb); clear HO_6; clear HO_311007; clear BK292; clear BK310; clear BK321; clear HB; have HO_6 := n0_; have HO_311007 := n1_; have BK292 := n2_; have BK310 := n3_; have BK321 := n4_; have HB := n5_; clear n0_ n1_ n2_ n3_ n4_ n5_; (try clear hb); (try clear hb2); (try clear hk); (try clear hi); have p75 : 0 ≤ (t331 : Int) := of_decide_eq_true (by first | (with_reducible assumption) | assumption); have q75 : (t331 : Int) < ((x6_43.length : Int) : Int) := of_decide_eq_true (by first | (with_reducible assumption) | assumption); obtain ⟨hx75_0, hf75_0⟩ := Kd.R_celln 0 HO_6.out (t331 : Int) p75 q75; replace p75 := eq_true p75; replace q75 := eq_true q75; obtain ⟨hy88_, hz88_⟩ := Kd.R_celln 0 HO_6.out (t331 : Int) (of_decide_eq_true (by first | (with_reducible assumption) | assumption)) (of_decide_eq_true (by first | (with_reducible assumption) | assumption)); have HP88 := Kd.R_putg HO_6.out (t331 : Int) 1) | ((with_reducible refine gate_store (t := 40) (p := 85) rfl ?_); refine store_event (t := 40) (p := 85) (v := ?vo_w89) (w1 := (w87.setCell ⟨go35, (t331 : Int).toNat, none⟩ (.int .u64 1))) ?hg ?ho ?hn ?hr ?_; (case ho => rfl); (case hg => rfl); (case hn => rfl); (case hr => first | (go_simp; done) | (go_simp; rfl)); intro w89 hw; have hg : w87.grownBy w89 (some go35) := (by rw [hw]; exact HP88.2); have hp_ : Kd.R (Kd.int .u64) 40 w89 w.heap.size (fun k_ => some k_ ≠ (.slice Ao11 t300.length co11 : Value).ownBlock) (.slice (some ⟨go35, 0, none⟩) x6_43.length co35) y332 := (by rw [hw, Ny332.out]; exact HP88.1); clear HP88; have n0_ := Aside0.mk (hp_); have n1_ := Aside0.mk (Kd.R_after (v := (.slice (some ⟨go35, 0, none⟩) x6_43.length co35)) (v1 := (.slice (some ⟨go35, 0, none⟩) x6_43.length co35)) (ok := (fun _ => True)) (by (with_reducible repeat (first | apply Kd.R_alloc | apply Kd.R_drewN | apply Kd.R_drew)); exact Kd.R_mono HO_311007.out (fun _ hk => ⟨trivial, hk⟩)) hg (.inl rfl)); have n2_ := Aside0.mk (blk_grown (g := gb292) (o := .cells #[.int .i64 a0_0, .int .i64 a0_1, .int .i64 a0_2, .int .i64 a0_3, .int .i64 a0_4, .int .i64 a0_5, .int .i64 a0_6] 23 (0, 0)) (by (with_reducible repeat (first | refine blk_drewN ?_ _ | refine blk_drew ?_ | refine blk_alloc ?_ _)); exact BK292.out) hg (Kd.R_ne HO_6.out BK292.out (by decide))); have n3_ := Aside0.mk (blk_grown (g := gb310) (o := .cells #[.int .i64 t293, .int .i64 t294, .int .i64 t295, .int .i64 t296, .int .i64 t297, .int .i64 t298, .int .i64 t299, .slice Ao11 t300.length co11, .int .i64 t303, .int .i64 t304, .int .i64 t305, .int .u64 t306, .int .u64 t307, .int .u64 t308, .bool t309] 50 (0, 0)) (by (with_reducible repeat (first | refine blk_drewN ?_ _ | refine blk_drew ?_ | refine blk_alloc ?_ _)); exact BK310.out) hg (Kd.R_ne HO_6.out BK310.out (by decide))); have n4_ := Aside0.mk (blk_grown (g := gb321) (o := .cells #[.int .u64 ((rd_T69 l1 x8_2).f0), .int .u64 ((rd_T69 l1 x8_2).f1), .int .i64 ((rd_T69 l1 x8_2).f2), .int .i64 ((rd_T69 l1 x8_2).f3), .bool ((rd_T69 l1 x8_2).f4)] 69 (0, 0)) (by (with_reducible repeat (first | refine blk_drewN ?_ _ | refine blk_drew ?_ | refine blk_alloc ?_ _)); exact BK321.out) hg (Kd.R_ne HO_6.out BK321.out (by decide))); have n5_ := Aside0.mk ((by rw [hw]; exact below_set (HB.out) GB35.out : Below w.heap.size w w89)); clear HO_6; clear HO_311007; clear BK292; clear BK310; clear BK321; clear HB; have HO_6 := n0_; have HO_311007 := n1_; have BK292 := n2_; have BK310 := n3_; have BK321 := n4_; have HB := n5_; clear n0_ n1_ n2_ n3_ n4_ n5_; clear hg hw hp_))
                       have n0_ := Aside0.mk (Kd.R_drew HO_6.out)
                       have n1_ := Aside0.mk (Kd.R_drew HO_311007.out)
                       have n2_ := Aside0.mk (blk_drew BK292.out)
                       have n3_ := Aside0.mk (blk_drew BK310.out)
                       have n4_ := Aside0.mk (blk_drew BK321.out)
                       have n5_ := Aside0.mk (below_drew1 HB.out)
                       clear HO_6
                       clear HO_311007
                       clear BK292
                       clear BK310
                       clear BK321
                       clear HB
                       have HO_6 := n0_
                       have HO_311007 := n1_
                       have BK292 := n2_
                       have BK310 := n3_
                       have BK321 := n4_
                       have HB := n5_
                       clear n0_ n1_ n2_ n3_ n4_ n5_
                       refine start_ (n := 10) (S := fun w' => w'.cell? ⟨gb292, 0, none⟩ = some (.int .i64 a0_0) ∧ w'.cell? ⟨gb292, 1, none⟩ = some (.int .i64 a0_1) ∧ w'.cell? ⟨gb292, 2, none⟩ = some (.int .i64 a0_2) ∧ w'.cell? ⟨gb292, 3, none⟩ = some (.int .i64 a0_3) ∧ w'.cell? ⟨gb292, 4, none⟩ = some (.int .i64 a0_4) ∧ w'.cell? ⟨gb292, 5, none⟩ = some (.int .i64 a0_5) ∧ w'.cell? ⟨gb292, 6, none⟩ = some (.int .i64 a0_6) ∧ w'.cell? ⟨gb321, 0, none⟩ = some (.int .u64 ((rd_T69 l1 x8_2).f0)) ∧ w'.cell? ⟨gb321, 1, none⟩ = some (.int .u64 ((rd_T69 l1 x8_2).f1)) ∧ w'.cell? ⟨gb321, 2, none⟩ = some (.int .i64 ((rd_T69 l1 x8_2).f2)) ∧ w'.cell? ⟨gb321, 3, none⟩ = some (.int .i64 ((rd_T69 l1 x8_2).f3)) ∧ w'.cell? ⟨gb321, 4, none⟩ = some (.bool ((rd_T69 l1 x8_2).f4))) (ds := [9]) #[false, false, false, false, false, false, false, false, false, false] (by kernel_rfl) rfl rfl ⟨(blk_cell BK292.out 0).trans rfl, (blk_cell BK292.out 1).trans rfl, (blk_cell BK292.out 2).trans rfl, (blk_cell BK292.out 3).trans rfl, (blk_cell BK292.out 4).trans rfl, (blk_cell BK292.out 5).trans rfl, (blk_cell BK292.out 6).trans rfl, (blk_cell BK321.out 0).trans rfl, (blk_cell BK321.out 1).trans rfl, (blk_cell BK321.out 2).trans rfl, (blk_cell BK321.out 3).trans rfl, (blk_cell BK321.out 4).trans rfl⟩ (fun hHeld => ?_); refine with_tabW stepstoneref11_Lay.tab17 stepstoneref11_Lay.bits17 (fun HT_ HW_ => ?_)
                       generalize w89.drew = w90 at HO_6 HO_311007 BK292 BK310 BK321 HB hHeld ⊢
                       refine pure_ (i := 0) (N := some 86) (v := ?_) (a' := ?_) #[true, false, false, false, false, false, false, false, false, false] rfl rfl (any_of HT_.out (by kernel_rfl)) (fun _ _ _ h => h) (Or.inl ⟨by rfl, ?_⟩) ?_ ?_
                       rotate_left
                       ·intro w'
                        go_simp
                        with_reducible rfl
                       rotate_left
                       ·simp only [Act.put, List.setIfInBounds_toArray, List.set_cons_zero, List.set_cons_succ, i64_w, i32_w]
                        rfl
                       refine pure_ (i := 2) (N := some 88) (v := ?_) (a' := ?_) #[true, false, true, false, false, false, false, false, false, false] rfl rfl (any_of HT_.out (by kernel_rfl)) (fun _ _ _ h => h) (Or.inl ⟨by rfl, ?_⟩) ?_ ?_
                       rotate_left
                       ·intro w'
                        go_simp
                        with_reducible rfl
                       rotate_left
                       ·simp only [Act.put, List.setIfInBounds_toArray, List.set_cons_zero, List.set_cons_succ, i64_w, i32_w]
                        rfl
                       refine pure_ (i := 3) (N := some 89) (v := ?_) (a' := ?_) #[true, false, true, true, false, false, false, false, false, false] rfl rfl (any_of HT_.out (by kernel_rfl)) (fun _ _ _ h => h) (Or.inl ⟨by rfl, ?_⟩) ?_ ?_
                       rotate_left
                       ·intro w'
                        go_simp
                        with_reducible rfl
                       rotate_left
                       ·simp only [Act.put, List.setIfInBounds_toArray, List.set_cons_zero, List.set_cons_succ, i64_w, i32_w]
                        rfl
                       refine pure_ (i := 5) (N := some 91) (v := ?_) (a' := ?_) #[true, false, true, true, false, true, false, false, false, false] rfl rfl (any_of HT_.out (by kernel_rfl)) (fun _ _ _ h => h) (Or.inl ⟨by rfl, ?_⟩) ?_ ?_
                       rotate_left
                       ·intro w'
                        go_simp
                        with_reducible rfl
                       rotate_left
                       ·simp only [Act.put, List.setIfInBounds_toArray, List.set_cons_zero, List.set_cons_succ, i64_w, i32_w]
                        rfl
                       refine take_ (i := 1) (N := some 87) (v := ?_) (a' := ?_) #[true, true, true, true, false, true, false, false, false, false] rfl rfl (take_ofW HT_.out HW_.out (by kernel_rfl)) (fun _ _ _ h => h) (Or.inl ⟨by rfl, ?_⟩) hHeld ?_ ?_
                       rotate_left
                       ·rintro w' ⟨s0, s1, s2, s3, s4, s5, s6, s7, s8, s9, s10, s11⟩
                        go_simp
                        with_reducible rfl
                       rotate_left
                       ·simp only [Act.put, List.setIfInBounds_toArray, List.set_cons_zero, List.set_cons_succ, i64_w, i32_w]
                        rfl
                       refine take_ (i := 6) (N := some 92) (v := ?_) (a' := ?_) #[true, true, true, true, false, true, true, false, false, false] rfl rfl (take_ofW HT_.out HW_.out (by kernel_rfl)) (fun _ _ _ h => h) (Or.inl ⟨by rfl, ?_⟩) hHeld ?_ ?_
                       rotate_left
                       ·rintro w' ⟨s0, s1, s2, s3, s4, s5, s6, s7, s8, s9, s10, s11⟩
                        go_simp
                        with_reducible rfl
                       rotate_left
                       ·simp only [Act.put, List.setIfInBounds_toArray, List.set_cons_zero, List.set_cons_succ, i64_w, i32_w]
                        rfl
                       refine pure_ (i := 7) (N := some 93) (v := ?_) (a' := ?_) #[true, true, true, true, false, true, true, true, false, false] rfl rfl (any_of HT_.out (by kernel_rfl)) (fun _ _ _ h => h) (Or.inl ⟨by rfl, ?_⟩) ?_ ?_
                       rotate_left
                       ·intro w'
                        go_simp
                        with_reducible rfl
                       rotate_left
                       ·simp only [Act.put, List.setIfInBounds_toArray, List.set_cons_zero, List.set_cons_succ, i64_w, i32_w]
                        rfl
                       refine one_ (i := 4) (N := some 90) #[true, true, true, true, true, true, true, true, false, false] rfl rfl (one_of HT_.out (by kernel_rfl)) (by decide) (fun K hK => ?_)
                       refine goes_ Try.func23 (by kernel_rfl) rfl #[.agg #[.int .i64 a0_0, .int .i64 a0_1, .int .i64 a0_2, .int .i64 a0_3, .int .i64 a0_4, .int .i64 a0_5, .int .i64 a0_6], .int .i64 (wrap64 (x8_2 + 1)), .int .i64 4] (by rfl) rfl rfl (by (try simp only [List.map_toArray, List.map_cons, List.map_nil]); first | done | rfl | (simp only [List.length_drop, List.length_take]; rfl)) ?_
                       with_reducible refine (stepstoneref04_Cell.calls a0_0 a0_1 a0_2 a0_3 a0_4 a0_5 a0_6 (wrap64 (x8_2 + 1)) 4 t333 _ A76.out).mono ?_
                       rintro e w91 ⟨rfl, hb⟩
                       refine ⟨_, rfl, ?_⟩
                       have n0_ := Aside0.mk (Kd.R_below (by (with_reducible repeat (first | apply Kd.R_alloc | apply Kd.R_drewN | apply Kd.R_drew)); exact HO_6.out) hb)
                       have n1_ := Aside0.mk (Kd.R_below (by (with_reducible repeat (first | apply Kd.R_alloc | apply Kd.R_drewN | apply Kd.R_drew)); exact HO_311007.out) hb)
                       have n2_ := Aside0.mk (blk_below (g := gb292) (o := .cells #[.int .i64 a0_0, .int .i64 a0_1, .int .i64 a0_2, .int .i64 a0_3, .int .i64 a0_4, .int .i64 a0_5, .int .i64 a0_6] 23 (0, 0)) (by (with_reducible repeat (first | refine blk_drewN ?_ _ | refine blk_drew ?_ | refine blk_alloc ?_ _)); exact BK292.out) hb)
                       have n3_ := Aside0.mk (blk_below (g := gb310) (o := .cells #[.int .i64 t293, .int .i64 t294, .int .i64 t295, .int .i64 t296, .int .i64 t297, .int .i64 t298, .int .i64 t299, .slice Ao11 t300.length co11, .int .i64 t303, .int .i64 t304, .int .i64 t305, .int .u64 t306, .int .u64 t307, .int .u64 t308, .bool t309] 50 (0, 0)) (by (with_reducible repeat (first | refine blk_drewN ?_ _ | refine blk_drew ?_ | refine blk_alloc ?_ _)); exact BK310.out) hb)
                       have n4_ := Aside0.mk (blk_below (g := gb321) (o := .cells #[.int .u64 ((rd_T69 l1 x8_2).f0), .int .u64 ((rd_T69 l1 x8_2).f1), .int .i64 ((rd_T69 l1 x8_2).f2), .int .i64 ((rd_T69 l1 x8_2).f3), .bool ((rd_T69 l1 x8_2).f4)] 69 (0, 0)) (by (with_reducible repeat (first | refine blk_drewN ?_ _ | refine blk_drew ?_ | refine blk_alloc ?_ _)); exact BK321.out) hb)
                       have n5_ := Aside0.mk (below_step (by repeat (first | (with_reducible first | exact HB.out | apply below_alloc | apply pw_below_drewN | apply below_drew1 | refine below_set ?_ GE292.out | refine below_set ?_ GE310.out | refine below_set ?_ GE321.out) | exact HB.out)) hb)
                       clear HO_6
                       clear HO_311007
                       clear BK292
                       clear BK310
                       clear BK321
                       clear HB
                       have HO_6 := n0_
                       have HO_311007 := n1_
                       have BK292 := n2_
                       have BK310 := n3_
                       have BK321 := n4_
                       have HB := n5_
                       clear n0_ n1_ n2_ n3_ n4_ n5_
                       (try clear hb)
                       (try clear hb2)
                       (try clear hk)
                       (try clear hi)
                       have p79 : 0 ≤ (t333 : Int) := of_decide_eq_true (by first | (with_reducible assumption) | assumption)
                       have q79 : (t333 : Int) < ((x6_43.length : Int) : Int) := of_decide_eq_true (by first | (with_reducible assumption) | assumption)
                       obtain ⟨hx79_0, hf79_0⟩ := Kd.R_celln 0 HO_6.out (t333 : Int) p79 q79
                       replace p79 := eq_true p79
                       replace q79 := eq_true q79
                       have HP92 := Kd.R_putn HO_6.out (t333 : Int) (IntKind.u64.wrap (((rd_T69 l1 x8_2).f2)))
                       rw [← Ny334.out] at HP92
                       have HQ92 := Aside0.mk HP92
                       clear HP92
                       refine hK.out _ _ ⟨(blk_cell BK292.out 0).trans rfl, (blk_cell BK292.out 1).trans rfl, (blk_cell BK292.out 2).trans rfl, (blk_cell BK292.out 3).trans rfl, (blk_cell BK292.out 4).trans rfl, (blk_cell BK292.out 5).trans rfl, (blk_cell BK292.out 6).trans rfl, (blk_cell BK321.out 0).trans rfl, (blk_cell BK321.out 1).trans rfl, (blk_cell BK321.out 2).trans rfl, (blk_cell BK321.out 3).trans rfl, (blk_cell BK321.out 4).trans rfl⟩ (fun hHeld => ?_)
                       clear hK K
                       refine norm_ (a' := ?_) ?_ ?_
                       rotate_left
                       ·show Act.put _ (some 90) _ = _
                        simp only [Act.put, List.setIfInBounds_toArray, List.set_cons_zero, List.set_cons_succ, i64_w, i32_w]
                        rfl
                       refine pure_ (i := 8) (N := some 94) (v := ?_) (a' := ?_) #[true, true, true, true, true, true, true, true, true, false] rfl rfl (any_of HT_.out (by kernel_rfl)) (fun _ _ _ h => h) (Or.inl ⟨by rfl, ?_⟩) ?_ ?_
                       rotate_left
                       ·intro w'
                        go_simp
                        with_reducible rfl
                       rotate_left
                       ·simp only [Act.put, List.setIfInBounds_toArray, List.set_cons_zero, List.set_cons_succ, i64_w, i32_w]
                        rfl
                       refine last_ (i := 9) (N := none) #[true, true, true, true, true, true, true, true, true, true] rfl rfl (one_of HT_.out (by kernel_rfl)) (by decide) (fun K hK => ?_)
                       refine skip_ (w1 := ?_) (by rfl) rfl ?_ ?_
                       rotate_left
                       ·go_simp
                        rfl
                       refine hK.out _ _ ?_
                       clear hK K
                       refine done_ (done_of HT_.out (by kernel_rfl)) ?_
                       have NE292 : gb292 ≠ go35 := by
                        have h_ := Kd.R_ne HO_6.out BK292.out (by decide)
                        intro e_
                        exact h_ (by rw [e_]; rfl)
                       have NE310 : gb310 ≠ go35 := by
                        have h_ := Kd.R_ne HO_6.out BK310.out (by decide)
                        intro e_
                        exact h_ (by rw [e_]; rfl)
                       have NE321 : gb321 ≠ go35 := by
                        have h_ := Kd.R_ne HO_6.out BK321.out (by decide)
                        intro e_
                        exact h_ (by rw [e_]; rfl)
                       have hcz93_0 : w91.cell? ⟨gb292, 0, none⟩ = some (.int .i64 a0_0) := (blk_cell BK292.out 0).trans rfl
                       have hcz93_1 : w91.cell? ⟨gb292, 1, none⟩ = some (.int .i64 a0_1) := (blk_cell BK292.out 1).trans rfl
                       have hcz93_2 : w91.cell? ⟨gb292, 2, none⟩ = some (.int .i64 a0_2) := (blk_cell BK292.out 2).trans rfl
                       have hcz93_3 : w91.cell? ⟨gb292, 3, none⟩ = some (.int .i64 a0_3) := (blk_cell BK292.out 3).trans rfl
                       have hcz93_4 : w91.cell? ⟨gb292, 4, none⟩ = some (.int .i64 a0_4) := (blk_cell BK292.out 4).trans rfl
                       have hcz93_5 : w91.cell? ⟨gb292, 5, none⟩ = some (.int .i64 a0_5) := (blk_cell BK292.out 5).trans rfl
                       have hcz93_6 : w91.cell? ⟨gb292, 6, none⟩ = some (.int .i64 a0_6) := (blk_cell BK292.out 6).trans rfl
                       have hfz93_0 := blk_frozen BK292.out 0
                       have hfz93_1 := blk_frozen BK292.out 1
                       have hfz93_2 := blk_frozen BK292.out 2
                       have hfz93_3 := blk_frozen BK292.out 3
                       have hfz93_4 := blk_frozen BK292.out 4
                       have hfz93_5 := blk_frozen BK292.out 5
                       have hfz93_6 := blk_frozen BK292.out 6
                       try go_wp2_with (first | ((with_reducible refine gate_callee (f := 23) rfl ?_); refine goesL_ (some 99) rfl rfl Try.func23 (by kernel_rfl) rfl #[.agg #[.int .i64 a0_0, .int .i64 a0_1, .int .i64 a0_2, .int .i64 a0_3, .int .i64 a0_4, .int .i64 a0_5, .int .i64 a0_6], .int .i64 (wrap64 (x8_2 + 1)), .int .i64 5] rfl (by (try simp only [List.map_toArray, List.map_cons, List.map_nil]); first | done | rfl | (simp only [List.length_drop, List.length_take]; rfl)) ?_; (with_reducible refine (stepstoneref04_Cell.calls a0_0 a0_1 a0_2 a0_3 a0_4 a0_5 a0_6 (wrap64 (x8_2 + 1)) 5 t335 _ A80.out).mono ?_); rintro e w94 ⟨rfl, hb⟩; refine ⟨_, rfl, ?_⟩; have n0_ := Aside0.mk (Kd.R_below (by (with_reducible repeat (first | apply Kd.R_alloc | apply Kd.R_drewN | apply Kd.R_drew)); exact HQ92.out) hb); have n1_ := Aside0.mk (Kd.R_below (by (with_reducible repeat (first | apply Kd.R_alloc | apply Kd.R_drewN | apply Kd.R_drew)); exact (Kd.R_mono (Kd.R_far (p := ⟨go35, (t333 : Int).toNat, none⟩) (Kd.R_mono HO_311007.out (fun k_ hk => (⟨hk, fun e_ => hk.2 (by rw [e_]; rfl)⟩ : _ ∧ k_ ≠ go35))) (fun _ hk => hk.2) (.int .u64 (IntKind.u64.wrap (((rd_T69 l1 x8_2).f2))))) (fun _ h_ => h_.1))) hb); have n2_ := Aside0.mk (blk_below (g := gb292) (o := .cells #[.int .i64 a0_0, .int .i64 a0_1, .int .i64 a0_2, .int .i64 a0_3, .int .i64 a0_4, .int .i64 a0_5, .int .i64 a0_6] 23 (0, 0)) (by (with_reducible repeat (first | refine blk_drewN ?_ _ | refine blk_drew ?_ | refine blk_alloc ?_ _)); refine blk_far ?_ (by have h_ := Kd.R_ne HO_6.out BK292.out (by decide); intro e_; exact h_ (by rw [e_]; rfl)) _; (with_reducible repeat (first | refine blk_drewN ?_ _ | refine blk_drew ?_ | refine blk_alloc ?_ _)); exact BK292.out) hb); have n3_ := Aside0.mk (blk_below (g := gb310) (o := .cells #[.int .i64 t293, .int .i64 t294, .int .i64 t295, .int .i64 t296, .int .i64 t297, .int .i64 t298, .int .i64 t299, .slice Ao11 t300.length co11, .int .i64 t303, .int .i64 t304, .int .i64 t305, .int .u64 t306, .int .u64 t307, .int .u64 t308, .bool t309] 50 (0, 0)) (by (with_reducible repeat (first | refine blk_drewN ?_ _ | refine blk_drew ?_ | refine blk_alloc ?_ _)); refine blk_far ?_ (by have h_ := Kd.R_ne HO_6.out BK310.out (by decide); intro e_; exact h_ (by rw [e_]; rfl)) _; (with_reducible repeat (first | refine blk_drewN ?_ _ | refine blk_drew ?_ | refine blk_alloc ?_ _)); exact BK310.out) hb); have n4_ := Aside0.mk (blk_below (g := gb321) (o := .cells #[.int .u64 ((rd_T69 l1 x8_2).f0), .int .u64 ((rd_T69 l1 x8_2).f1), .int .i64 ((rd_T69 l1 x8_2).f2), .int .i64 ((rd_T69 l1 x8_2).f3), .bool ((rd_T69 l1 x8_2).f4)] 69 (0, 0)) (by (with_reducible repeat (first | refine blk_drewN ?_ _ | refine blk_drew ?_ | refine blk_alloc ?_ _)); refine blk_far ?_ (by have h_ := Kd.R_ne HO_6.out BK321.out (by decide); intro e_; exact h_ (by rw [e_]; rfl)) _; (with_reducible repeat (first | refine blk_drewN ?_ _ | refine blk_drew ?_ | refine blk_alloc ?_ _)); exact BK321.out) hb); have n5_ := Aside0.mk (below_step (by repeat (first | (with_reducible first | exact HB.out | apply below_alloc | apply pw_below_drewN | apply below_drew1 | refine below_set ?_ GB35.out | refine below_set ?_ GE292.out | refine below_set ?_ GE310.out | refine below_set ?_ GE321.out) | exact HB.out)) hb); clear HO_6; clear HO_311007; clear BK292; clear BK310; clear BK321; clear HB; have HO_6 := n0_; have HO_311007 := n1_; have BK292 := n2_; have BK310 := n3_; have BK321 := n4_; have HB := n5_; clear n0_ n1_ n2_ n3_ n4_ n5_; (try clear hb); (try clear hb2); (try clear hk); (try clear hi); have p83 : 0 ≤ (t335 : Int) := of_decide_eq_true (by first | (with_reducible assumption) | assumption); have q83 : (t335 : Int) < ((x6_43.length : Int) : Int) := of_decide_eq_true (by first | (with_reducible assumption) | assumption); obtain ⟨hx83_0, hf83_0⟩ := Kd.R_celln 0 HO_6.out (t335 : Int) p83 q83; replace p83 := eq_true p83; replace q83 := eq_true q83; obtain ⟨hy95_, hz95_⟩ := Kd.R_celln 0 HO_6.out (t335 : Int) (of_decide_eq_true (by first | (with_reducible assumption) | assumption)) (of_decide_eq_true (by first | (with_reducible assumption) | assumption)); have HP95 := Kd.R_putg HO_6.out (t335 : Int) 1) | ((with_reducible refine gate_store (t := 40) (p := 100) rfl ?_); refine store_event (t := 40) (p := 100) (v := ?vo_w96) (w1 := (w94.setCell ⟨go35, (t335 : Int).toNat, none⟩ (.int .u64 1))) ?hg ?ho ?hn ?hr ?_; (case ho => rfl); (case hg => rfl); (case hn => rfl); (case hr => first | (go_simp; done) | (go_simp; rfl)); intro w96 hw; have hg : w94.grownBy w96 (some go35) := (by rw [hw]; exact HP95.2); have hp_ : Kd.R (Kd.int .u64) 40 w96 w.heap.size (fun k_ => some k_ ≠ (.slice Ao11 t300.length co11 : Value).ownBlock) (.slice (some ⟨go35, 0, none⟩) x6_43.length co35) y336 := (by rw [hw, Ny336.out]; exact HP95.1); clear HP95; have n0_ := Aside0.mk (hp_); have n1_ := Aside0.mk (Kd.R_after (v := (.slice (some ⟨go35, 0, none⟩) x6_43.length co35)) (v1 := (.slice (some ⟨go35, 0, none⟩) x6_43.length co35)) (ok := (fun _ => True)) (by (with_reducible repeat (first | apply Kd.R_alloc | apply Kd.R_drewN | apply Kd.R_drew)); exact HO_311007.out) hg (.inl rfl)); have n2_ := Aside0.mk (blk_grown (g := gb292) (o := .cells #[.int .i64 a0_0, .int .i64 a0_1, .int .i64 a0_2, .int .i64 a0_3, .int .i64 a0_4, .int .i64 a0_5, .int .i64 a0_6] 23 (0, 0)) (by (with_reducible repeat (first | refine blk_drewN ?_ _ | refine blk_drew ?_ | refine blk_alloc ?_ _)); exact BK292.out) hg (Kd.R_ne HO_6.out BK292.out (by decide))); have n3_ := Aside0.mk (blk_grown (g := gb310) (o := .cells #[.int .i64 t293, .int .i64 t294, .int .i64 t295, .int .i64 t296, .int .i64 t297, .int .i64 t298, .int .i64 t299, .slice Ao11 t300.length co11, .int .i64 t303, .int .i64 t304, .int .i64 t305, .int .u64 t306, .int .u64 t307, .int .u64 t308, .bool t309] 50 (0, 0)) (by (with_reducible repeat (first | refine blk_drewN ?_ _ | refine blk_drew ?_ | refine blk_alloc ?_ _)); exact BK310.out) hg (Kd.R_ne HO_6.out BK310.out (by decide))); have n4_ := Aside0.mk (blk_grown (g := gb321) (o := .cells #[.int .u64 ((rd_T69 l1 x8_2).f0), .int .u64 ((rd_T69 l1 x8_2).f1), .int .i64 ((rd_T69 l1 x8_2).f2), .int .i64 ((rd_T69 l1 x8_2).f3), .bool ((rd_T69 l1 x8_2).f4)] 69 (0, 0)) (by (with_reducible repeat (first | refine blk_drewN ?_ _ | refine blk_drew ?_ | refine blk_alloc ?_ _)); exact BK321.out) hg (Kd.R_ne HO_6.out BK321.out (by decide))); have n5_ := Aside0.mk ((by rw [hw]; exact below_set (HB.out) GB35.out : Below w.heap.size w w96)); clear HO_6; clear HO_311007; clear BK292; clear BK310; clear BK321; clear HB; have HO_6 := n0_; have HO_311007 := n1_; have BK292 := n2_; have BK310 := n3_; have BK321 := n4_; have HB := n5_; clear n0_ n1_ n2_ n3_ n4_ n5_; clear hg hw hp_))
                       go_loopg [10] kj43 (fun kq v10 w' => ∃ (x6_4 : List Int) (x10_4 : Int), v10 = .int .i64 x10_4 ∧ Aside0 (stepstoneref11_Lay.l2 kq l1 x6_4 x8_2 x10_4 a0_0 a0_1 a0_2 a0_3 a0_4 a0_5 a0_6 ((rd_T69 l1 x8_2).f0) ((rd_T69 l1 x8_2).f1) ((rd_T69 l1 x8_2).f2) ((rd_T69 l1 x8_2).f3) ((rd_T69 l1 x8_2).f4) = some r) ∧ Aside0 (kq ≤ kj43) ∧ Aside0 (Kd.R (Kd.int .u64) 40 w' w.heap.size (fun k_ => some k_ ≠ ((.slice Ao11 t300.length co11) : Value).ownBlock) (.slice (some ⟨go35, 0, none⟩) x6_43.length co35) x6_4) ∧ Aside0 (Kd.R (Kd.int .u64) 40 w' w.heap.size (fun k_ => some k_ ≠ ((.slice (some ⟨go35, 0, none⟩) x6_43.length co35) : Value).ownBlock) (.slice Ao11 t300.length co11) t300) ∧ Aside0 (w'.heap[gb292]? = some (.cells #[.int .i64 a0_0, .int .i64 a0_1, .int .i64 a0_2, .int .i64 a0_3, .int .i64 a0_4, .int .i64 a0_5, .int .i64 a0_6] 23 (0, 0))) ∧ Aside0 (w'.heap[gb310]? = some (.cells #[.int .i64 t293, .int .i64 t294, .int .i64 t295, .int .i64 t296, .int .i64 t297, .int .i64 t298, .int .i64 t299, (.slice Ao11 t300.length co11), .int .i64 t303, .int .i64 t304, .int .i64 t305, .int .u64 t306, .int .u64 t307, .int .u64 t308, .bool t309] 50 (0, 0))) ∧ Aside0 (w'.heap[gb321]? = some (.cells #[.int .u64 ((rd_T69 l1 x8_2).f0), .int .u64 ((rd_T69 l1 x8_2).f1), .int .i64 ((rd_T69 l1 x8_2).f2), .int .i64 ((rd_T69 l1 x8_2).f3), .bool ((rd_T69 l1 x8_2).f4)] 69 (0, 0))) ∧ Aside0 (Below w.heap.size w w'))
                       case atStart => exact ⟨(y336), (0), (by first | rfl | (simp; done) | (simp [*]; done)), H', ⟨Nat.le_refl _⟩, ⟨by (try simp only [hl6_43]); (with_reducible repeat (first | apply Kd.R_alloc | apply Kd.R_drewN | apply Kd.R_drew)); exact HO_6.out⟩, ⟨by (try simp only [hl6_43]); (with_reducible repeat (first | apply Kd.R_alloc | apply Kd.R_drewN | apply Kd.R_drew)); exact Kd.R_mono HO_311007.out (fun _ hk => hk.2)⟩, ⟨by (try simp only [hl6_43]); (with_reducible repeat (first | refine blk_drewN ?_ _ | refine blk_drew ?_ | refine blk_alloc ?_ _)); exact BK292.out⟩, ⟨by (try simp only [hl6_43]); (with_reducible repeat (first | refine blk_drewN ?_ _ | refine blk_drew ?_ | refine blk_alloc ?_ _)); exact BK310.out⟩, ⟨by (try simp only [hl6_43]); (with_reducible repeat (first | refine blk_drewN ?_ _ | refine blk_drew ?_ | refine blk_alloc ?_ _)); exact BK321.out⟩, ⟨by repeat (first | (with_reducible first | exact HB.out | apply below_alloc | apply pw_below_drewN | apply below_drew1 | refine below_set ?_ GE292.out | refine below_set ?_ GE310.out | refine below_set ?_ GE321.out) | exact HB.out)⟩⟩
                       case round =>
                        clear H'
                        try clear c2
                        try clear p2
                        try clear c3
                        try clear p3
                        try clear q3
                        try clear hx3
                        try clear hf3
                        try clear c4
                        try clear p4
                        try clear q4
                        try clear hx4
                        try clear hf4
                        try clear c6
                        try clear p6
                        try clear q6
                        try clear hx6
                        try clear hf6
                        try clear c7
                        try clear p7
                        try clear q7
                        try clear hx7
                        try clear hf7
                        try clear c8
                        try clear p8
                        try clear q8
                        try clear hx8
                        try clear hf8
                        try clear c23
                        try clear c29
                        try clear c29b0
                        try clear c30
                        try clear c30b0
                        try clear p32
                        try clear q32
                        try clear hx32
                        try clear c33
                        try clear c33b0
                        try clear c34
                        try clear c34b0
                        try clear p35
                        try clear q35
                        try clear hx35
                        try clear hf35
                        try clear c37
                        try clear c37b0
                        try clear c38
                        try clear c38b0
                        try clear p39
                        try clear q39
                        try clear hx39
                        try clear hf39
                        try clear c41
                        try clear c41b0
                        try clear c42
                        try clear c42b0
                        try clear p43
                        try clear q43
                        try clear hx43
                        try clear hf43
                        try clear c46
                        try clear c47
                        try clear c49
                        try clear c61
                        try clear q62
                        try clear c63
                        try clear p64
                        try clear c65
                        try clear c65b0
                        try clear c66
                        try clear c66b0
                        try clear p67
                        try clear q67
                        try clear hx67
                        try clear hf67
                        try clear c73
                        try clear c73b0
                        try clear c74
                        try clear c74b0
                        try clear p75
                        try clear q75
                        try clear hx75
                        try clear hf75
                        try clear c77
                        try clear c77b0
                        try clear c78
                        try clear c78b0
                        try clear p79
                        try clear q79
                        try clear hx79
                        try clear hf79
                        try clear c81
                        try clear c81b0
                        try clear c82
                        try clear c82b0
                        try clear p83
                        try clear q83
                        try clear hx83
                        try clear hf83
                        try clear c84
                        try clear c85
                        try clear hcz48_0
                        try clear hcz48_1
                        try clear hcz48_2
                        try clear hcz48_3
                        try clear hcz48_4
                        try clear hcz50_0
                        try clear hcz50_1
                        try clear hcz50_2
                        try clear hcz50_3
                        try clear hcz50_4
                        try clear hcz50_5
                        try clear hcz50_6
                        try clear hcz61_0
                        try clear hcz61_1
                        try clear hcz61_2
                        try clear hcz61_3
                        try clear hcz61_4
                        try clear hcz86_0
                        try clear hcz86_1
                        try clear hcz86_2
                        try clear hcz86_3
                        try clear hcz86_4
                        try clear hcz86_5
                        try clear hcz86_6
                        try clear hcz93_0
                        try clear hcz93_1
                        try clear hcz93_2
                        try clear hcz93_3
                        try clear hcz93_4
                        try clear hcz93_5
                        try clear hcz93_6
                        try clear hfz48_0
                        try clear hfz48_1
                        try clear hfz48_2
                        try clear hfz48_3
                        try clear hfz48_4
                        try clear hfz50_0
                        try clear hfz50_1
                        try clear hfz50_2
                        try clear hfz50_3
                        try clear hfz50_4
                        try clear hfz50_5
                        try clear hfz50_6
                        try clear hfz61_0
                        try clear hfz61_1
                        try clear hfz61_2
                        try clear hfz61_3
                        try clear hfz61_4
                        try clear hfz86_0
                        try clear hfz86_1
                        try clear hfz86_2
                        try clear hfz86_3
                        try clear hfz86_4
                        try clear hfz86_5
                        try clear hfz86_6
                        try clear hfz93_0
                        try clear hfz93_1
                        try clear hfz93_2
                        try clear hfz93_3
                        try clear hfz93_4
                        try clear hfz93_5
                        try clear hfz93_6
                        try clear hx320_0
                        try clear hx320_1
                        try clear hx320_2
                        try clear hx320_3
                        try clear hx320_4
                        try clear hx35_0
                        try clear hx39_0
                        try clear hx43_0
                        try clear hx67_0
                        try clear hx75_0
                        try clear hx79_0
                        try clear hx83_0
                        try clear p2
                        try clear p3
                        try clear p32
                        try clear p320
                        try clear p35
                        try clear p39
                        try clear p4
                        try clear p43
                        try clear p6
                        try clear p64
                        try clear p67
                        try clear p75
                        try clear p79
                        try clear p83
                        try clear q3
                        try clear q32
                        try clear q320
                        try clear q35
                        try clear q39
                        try clear q4
                        try clear q43
                        try clear q6
                        try clear q62
                        try clear q67
                        try clear q75
                        try clear q79
                        try clear q83
                        obtain ⟨x6_4, x10_4, rfl, HA, HK4, HO_6, HO_311007, BK292, BK310, BK321, HB⟩ := hrel
                        have hl6_4 := (Kd.R_reads' HO_6.out).1
                        rw [hl6_4] at HO_6
                        (try simp only [hl6_4])
                        (try simp only [hl6_4] at BK292)
                        (try simp only [hl6_4] at BK310)
                        (try simp only [hl6_4] at BK321)
                        (try simp only [hl6_4] at HO_311007)
                        cases gk with
                        | zero => exact absurd HA.out (by simp [stepstoneref11_Lay.l2])
                        | succ k4 =>
                         have H := HA.out
                         clear HA
                         simp only [stepstoneref11_Lay.l2] at H
                         by_cases c97 : x10_4 < ((rd_T69 l1 x8_2).f2)
                         ·rw [if_pos c97] at H
                          have c97b0 : decide (x10_4 < ((rd_T69 l1 x8_2).f2)) = true := decide_eq_true c97
                          clear c97
                          replace H := Option.bind_eq_some_iff.mp H
                          obtain ⟨t337, A980, H⟩ := H
                          replace H : (if x10_4 ≥ (wrap64 (((rd_T69 l1 x8_2).f2) - ((rd_T69 l1 x8_2).f3))) then ((stepstoneref01_Mark.f t337).bind fun t338 => ((stepstoneref04_Cell.f a0_0 a0_1 a0_2 a0_3 a0_4 a0_5 a0_6 (wrap64 (x8_2 + 1)) (wrap64 (6 + x10_4))).bind fun t339 => (if 0 ≤ t339 then (if t339 < (x6_4.length : Int) then (stepstoneref11_Lay.l2 k4 l1 (x6_4.set (t339 : Int).toNat t338) x8_2 (wrap64 (x10_4 + 1)) a0_0 a0_1 a0_2 a0_3 a0_4 a0_5 a0_6 ((rd_T69 l1 x8_2).f0) ((rd_T69 l1 x8_2).f1) ((rd_T69 l1 x8_2).f2) ((rd_T69 l1 x8_2).f3) ((rd_T69 l1 x8_2).f4)) else (none)) else (none)))) else ((stepstoneref04_Cell.f a0_0 a0_1 a0_2 a0_3 a0_4 a0_5 a0_6 (wrap64 (x8_2 + 1)) (wrap64 (6 + x10_4))).bind fun t341 => (if 0 ≤ t341 then (if t341 < (x6_4.length : Int) then (stepstoneref11_Lay.l2 k4 l1 (x6_4.set (t341 : Int).toNat t337) x8_2 (wrap64 (x10_4 + 1)) a0_0 a0_1 a0_2 a0_3 a0_4 a0_5 a0_6 ((rd_T69 l1 x8_2).f0) ((rd_T69 l1 x8_2).f1) ((rd_T69 l1 x8_2).f2) ((rd_T69 l1 x8_2).f3) ((rd_T69 l1 x8_2).f4)) else (none)) else (none)))) = some r := H
                          have A98 := Aside0.mk A980
                          clear A980
                          by_cases c99 : x10_4 ≥ (wrap64 (((rd_T69 l1 x8_2).f2) - ((rd_T69 l1 x8_2).f3)))
                          ·rw [if_pos c99] at H
                           have c99b0 : decide ((wrap64 (((rd_T69 l1 x8_2).f2) - ((rd_T69 l1 x8_2).f3))) ≤ x10_4) = true := decide_eq_true c99
                           clear c99
                           replace H := Option.bind_eq_some_iff.mp H
                           obtain ⟨t338, A1000, H⟩ := H
                           replace H : ((stepstoneref04_Cell.f a0_0 a0_1 a0_2 a0_3 a0_4 a0_5 a0_6 (wrap64 (x8_2 + 1)) (wrap64 (6 + x10_4))).bind fun t339 => (if 0 ≤ t339 then (if t339 < (x6_4.length : Int) then (stepstoneref11_Lay.l2 k4 l1 (x6_4.set (t339 : Int).toNat t338) x8_2 (wrap64 (x10_4 + 1)) a0_0 a0_1 a0_2 a0_3 a0_4 a0_5 a0_6 ((rd_T69 l1 x8_2).f0) ((rd_T69 l1 x8_2).f1) ((rd_T69 l1 x8_2).f2) ((rd_T69 l1 x8_2).f3) ((rd_T69 l1 x8_2).f4)) else (none)) else (none))) = some r := H
                           have A100 := Aside0.mk A1000
                           clear A1000
                           replace H := Option.bind_eq_some_iff.mp H
                           obtain ⟨t339, A1010, H⟩ := H
                           replace H : (if 0 ≤ t339 then (if t339 < (x6_4.length : Int) then (stepstoneref11_Lay.l2 k4 l1 (x6_4.set (t339 : Int).toNat t338) x8_2 (wrap64 (x10_4 + 1)) a0_0 a0_1 a0_2 a0_3 a0_4 a0_5 a0_6 ((rd_T69 l1 x8_2).f0) ((rd_T69 l1 x8_2).f1) ((rd_T69 l1 x8_2).f2) ((rd_T69 l1 x8_2).f3) ((rd_T69 l1 x8_2).f4)) else (none)) else (none)) = some r := H
                           have A101 := Aside0.mk A1010
                           clear A1010
                           by_cases c102 : 0 ≤ t339
                           ·rw [if_pos c102] at H
                            have c102b0 : decide (0 ≤ t339) = true := decide_eq_true c102
                            clear c102
                            by_cases c103 : t339 < (x6_4.length : Int)
                            ·rw [if_pos c103] at H
                             have c103b0 : decide (t339 < (x6_4.length : Int)) = true := decide_eq_true c103
                             clear c103
                             obtain ⟨y340, hy340⟩ : ∃ y_ : List Int, y_ = (x6_4.set (t339 : Int).toNat t338) := ⟨_, rfl⟩
                             replace H : (stepstoneref11_Lay.l2 k4 l1 y340 x8_2 (wrap64 (x10_4 + 1)) a0_0 a0_1 a0_2 a0_3 a0_4 a0_5 a0_6 ((rd_T69 l1 x8_2).f0) ((rd_T69 l1 x8_2).f1) ((rd_T69 l1 x8_2).f2) ((rd_T69 l1 x8_2).f3) ((rd_T69 l1 x8_2).f4)) = some r := by first | (rw [hy340]; with_reducible exact H) | (have H2_ := (Option.bind_some _ _).symm.trans H; rw [hy340]; with_reducible exact H2_) | (have H2_ := (Option.bind_some _ _).symm.trans H; with_reducible exact H2_) | with_reducible exact H | (rw [hy340]; exact H) | exact H
                             have Ny340 := Aside0.mk hy340
                             clear hy340
                             have H' := Aside0.mk H
                             clear H
                             have hnb105 := NB321_292.out
                             have hnc105 := NB292_321.out
                             have hnb106 := NB321_310.out
                             have hnc106 := NB310_321.out
                             have hcz107_0 : wr.cell? ⟨gb321, 0, none⟩ = some (.int .u64 ((rd_T69 l1 x8_2).f0)) := (blk_cell BK321.out 0).trans rfl
                             have hcz107_1 : wr.cell? ⟨gb321, 1, none⟩ = some (.int .u64 ((rd_T69 l1 x8_2).f1)) := (blk_cell BK321.out 1).trans rfl
                             have hcz107_2 : wr.cell? ⟨gb321, 2, none⟩ = some (.int .i64 ((rd_T69 l1 x8_2).f2)) := (blk_cell BK321.out 2).trans rfl
                             have hcz107_3 : wr.cell? ⟨gb321, 3, none⟩ = some (.int .i64 ((rd_T69 l1 x8_2).f3)) := (blk_cell BK321.out 3).trans rfl
                             have hcz107_4 : wr.cell? ⟨gb321, 4, none⟩ = some (.bool ((rd_T69 l1 x8_2).f4)) := (blk_cell BK321.out 4).trans rfl
                             have hfz107_0 := blk_frozen BK321.out 0
                             have hfz107_1 := blk_frozen BK321.out 1
                             have hfz107_2 := blk_frozen BK321.out 2
                             have hfz107_3 := blk_frozen BK321.out 3
                             have hfz107_4 := blk_frozen BK321.out 4
                             go_wp2_with (first | ((with_reducible refine gate_callee (f := 60) rfl ?_); refine goesL_ (some 110) rfl rfl Try.func60 (by kernel_rfl) rfl #[.slice (some ad320) l1.length c1, .int .i64 x8_2, .int .i64 x10_4] rfl (by (try simp only [List.map_toArray, List.map_cons, List.map_nil]); first | done | rfl | (simp only [List.length_drop, List.length_take]; rfl)) ?_; (with_reducible refine (stepstoneref11_behind.calls k4 _ _ l1 x8_2 x10_4 t337 _ ?side1 ?side2 A98.out).mono ?_); (case side1 => repeat (first | exact (Kd.C_below HR1.out HB.out) | (with_reducible refine Kd.C_alloc ?_ _) | (with_reducible refine Kd.C_drewN ?_ _) | (with_reducible refine Kd.C_drew ?_))); (case side2 => exact HC1.out); rintro e w' ⟨rfl, ⟨nd, rfl⟩⟩; refine ⟨_, rfl, ?_⟩; (try (rw [drewN_self wr]; generalize hq_ : World.drewN wr _ = wr; have n0_ : Aside0 (Kd.R (Kd.int .u64) 40 wr w.heap.size (fun k_ => some k_ ≠ (.slice (some ⟨go35, 0, none⟩) x6_4.length co35 : Value).ownBlock) (.slice Ao11 t300.length co11) t300) := ⟨by rw [← hq_]; exact (by (with_reducible repeat (first | apply Kd.R_alloc | apply Kd.R_drewN | apply Kd.R_drew)); exact HO_311007.out)⟩; have n1_ : Aside0 (Kd.R (Kd.int .u64) 40 wr w.heap.size (fun k_ => some k_ ≠ (.slice Ao11 t300.length co11 : Value).ownBlock) (.slice (some ⟨go35, 0, none⟩) x6_4.length co35) x6_4) := ⟨by rw [← hq_]; exact (by (with_reducible repeat (first | apply Kd.R_alloc | apply Kd.R_drewN | apply Kd.R_drew)); exact HO_6.out)⟩; have n2_ : Aside0 (wr.heap[gb292]? = some (.cells #[.int .i64 a0_0, .int .i64 a0_1, .int .i64 a0_2, .int .i64 a0_3, .int .i64 a0_4, .int .i64 a0_5, .int .i64 a0_6] 23 (0, 0))) := ⟨by rw [← hq_]; exact (by (with_reducible repeat (first | refine blk_drewN ?_ _ | refine blk_drew ?_ | refine blk_alloc ?_ _)); exact BK292.out)⟩; have n3_ : Aside0 (wr.heap[gb310]? = some (.cells #[.int .i64 t293, .int .i64 t294, .int .i64 t295, .int .i64 t296, .int .i64 t297, .int .i64 t298, .int .i64 t299, .slice Ao11 t300.length co11, .int .i64 t303, .int .i64 t304, .int .i64 t305, .int .u64 t306, .int .u64 t307, .int .u64 t308, .bool t309] 50 (0, 0))) := ⟨by rw [← hq_]; exact (by (with_reducible repeat (first | refine blk_drewN ?_ _ | refine blk_drew ?_ | refine blk_alloc ?_ _)); exact BK310.out)⟩; have n4_ : Aside0 (wr.heap[gb321]? = some (.cells #[.int .u64 ((rd_T69 l1 x8_2).f0), .int .u64 ((rd_T69 l1 x8_2).f1), .int .i64 ((rd_T69 l1 x8_2).f2), .int .i64 ((rd_T69 l1 x8_2).f3), .bool ((rd_T69 l1 x8_2).f4)] 69 (0, 0))) := ⟨by rw [← hq_]; exact (by (with_reducible repeat (first | refine blk_drewN ?_ _ | refine blk_drew ?_ | refine blk_alloc ?_ _)); exact BK321.out)⟩; have n5_ : Aside0 (Below w.heap.size w wr) := ⟨by rw [← hq_]; exact (by repeat (first | (with_reducible first | exact HB.out | apply below_alloc | apply pw_below_drewN | apply below_drew1 | refine below_set ?_ GE292.out | refine below_set ?_ GE310.out | refine below_set ?_ GE321.out) | exact HB.out))⟩; clear HO_311007 HO_6 BK292 BK310 BK321 HB hq_; have HO_311007 := n0_; have HO_6 := n1_; have BK292 := n2_; have BK310 := n3_; have BK321 := n4_; have HB := n5_; clear n0_ n1_ n2_ n3_ n4_ n5_; have hcy_0 : wr.cell? ⟨gb321, 0, none⟩ = some (.int .u64 ((rd_T69 l1 x8_2).f0)) := (blk_cell BK321.out 0).trans rfl; have hcy_1 : wr.cell? ⟨gb321, 1, none⟩ = some (.int .u64 ((rd_T69 l1 x8_2).f1)) := (blk_cell BK321.out 1).trans rfl; have hcy_2 : wr.cell? ⟨gb321, 2, none⟩ = some (.int .i64 ((rd_T69 l1 x8_2).f2)) := (blk_cell BK321.out 2).trans rfl; have hcy_3 : wr.cell? ⟨gb321, 3, none⟩ = some (.int .i64 ((rd_T69 l1 x8_2).f3)) := (blk_cell BK321.out 3).trans rfl; have hcy_4 : wr.cell? ⟨gb321, 4, none⟩ = some (.bool ((rd_T69 l1 x8_2).f4)) := (blk_cell BK321.out 4).trans rfl; have hcx_0 : wr.cell? ⟨gb292, 0, none⟩ = some (.int .i64 a0_0) := (blk_cell BK292.out 0).trans rfl; have hcx_1 : wr.cell? ⟨gb292, 1, none⟩ = some (.int .i64 a0_1) := (blk_cell BK292.out 1).trans rfl; have hcx_2 : wr.cell? ⟨gb292, 2, none⟩ = some (.int .i64 a0_2) := (blk_cell BK292.out 2).trans rfl; have hcx_3 : wr.cell? ⟨gb292, 3, none⟩ = some (.int .i64 a0_3) := (blk_cell BK292.out 3).trans rfl; have hcx_4 : wr.cell? ⟨gb292, 4, none⟩ = some (.int .i64 a0_4) := (blk_cell BK292.out 4).trans rfl; have hcx_5 : wr.cell? ⟨gb292, 5, none⟩ = some (.int .i64 a0_5) := (blk_cell BK292.out 5).trans rfl; have hcx_6 : wr.cell? ⟨gb292, 6, none⟩ = some (.int .i64 a0_6) := (blk_cell BK292.out 6).trans rfl))) | ((with_reducible refine gate_callee (f := 62) rfl ?_); refine goesL_ (some 119) rfl rfl Try.func62 (by kernel_rfl) rfl #[.int .u64 t337] rfl (by (try simp only [List.map_toArray, List.map_cons, List.map_nil]); first | done | rfl | (simp only [List.length_drop, List.length_take]; rfl)) ?_; (with_reducible refine (stepstoneref01_Mark.calls t337 t338 _ A100.out).mono ?_); rintro e w' ⟨rfl, ⟨nd, rfl⟩⟩; refine ⟨_, rfl, ?_⟩; (try (rw [drewN_self wr]; generalize hq_ : World.drewN wr _ = wr; have n0_ : Aside0 (Kd.R (Kd.int .u64) 40 wr w.heap.size (fun k_ => some k_ ≠ (.slice (some ⟨go35, 0, none⟩) x6_4.length co35 : Value).ownBlock) (.slice Ao11 t300.length co11) t300) := ⟨by rw [← hq_]; exact (by (with_reducible repeat (first | apply Kd.R_alloc | apply Kd.R_drewN | apply Kd.R_drew)); exact HO_311007.out)⟩; have n1_ : Aside0 (Kd.R (Kd.int .u64) 40 wr w.heap.size (fun k_ => some k_ ≠ (.slice Ao11 t300.length co11 : Value).ownBlock) (.slice (some ⟨go35, 0, none⟩) x6_4.length co35) x6_4) := ⟨by rw [← hq_]; exact (by (with_reducible repeat (first | apply Kd.R_alloc | apply Kd.R_drewN | apply Kd.R_drew)); exact HO_6.out)⟩; have n2_ : Aside0 (wr.heap[gb292]? = some (.cells #[.int .i64 a0_0, .int .i64 a0_1, .int .i64 a0_2, .int .i64 a0_3, .int .i64 a0_4, .int .i64 a0_5, .int .i64 a0_6] 23 (0, 0))) := ⟨by rw [← hq_]; exact (by (with_reducible repeat (first | refine blk_drewN ?_ _ | refine blk_drew ?_ | refine blk_alloc ?_ _)); exact BK292.out)⟩; have n3_ : Aside0 (wr.heap[gb310]? = some (.cells #[.int .i64 t293, .int .i64 t294, .int .i64 t295, .int .i64 t296, .int .i64 t297, .int .i64 t298, .int .i64 t299, .slice Ao11 t300.length co11, .int .i64 t303, .int .i64 t304, .int .i64 t305, .int .u64 t306, .int .u64 t307, .int .u64 t308, .bool t309] 50 (0, 0))) := ⟨by rw [← hq_]; exact (by (with_reducible repeat (first | refine blk_drewN ?_ _ | refine blk_drew ?_ | refine blk_alloc ?_ _)); exact BK310.out)⟩; have n4_ : Aside0 (wr.heap[gb321]? = some (.cells #[.int .u64 ((rd_T69 l1 x8_2).f0), .int .u64 ((rd_T69 l1 x8_2).f1), .int .i64 ((rd_T69 l1 x8_2).f2), .int .i64 ((rd_T69 l1 x8_2).f3), .bool ((rd_T69 l1 x8_2).f4)] 69 (0, 0))) := ⟨by rw [← hq_]; exact (by (with_reducible repeat (first | refine blk_drewN ?_ _ | refine blk_drew ?_ | refine blk_alloc ?_ _)); exact BK321.out)⟩; have n5_ : Aside0 (Below w.heap.size w wr) := ⟨by rw [← hq_]; exact (by repeat (first | (with_reducible first | exact HB.out | apply below_alloc | apply pw_below_drewN | apply below_drew1 | refine below_set ?_ GE292.out | refine below_set ?_ GE310.out | refine below_set ?_ GE321.out) | exact HB.out))⟩; clear HO_311007 HO_6 BK292 BK310 BK321 HB hq_; have HO_311007 := n0_; have HO_6 := n1_; have BK292 := n2_; have BK310 := n3_; have BK321 := n4_; have HB := n5_; clear n0_ n1_ n2_ n3_ n4_ n5_; have hcy_0 : wr.cell? ⟨gb321, 0, none⟩ = some (.int .u64 ((rd_T69 l1 x8_2).f0)) := (blk_cell BK321.out 0).trans rfl; have hcy_1 : wr.cell? ⟨gb321, 1, none⟩ = some (.int .u64 ((rd_T69 l1 x8_2).f1)) := (blk_cell BK321.out 1).trans rfl; have hcy_2 : wr.cell? ⟨gb321, 2, none⟩ = some (.int .i64 ((rd_T69 l1 x8_2).f2)) := (blk_cell BK321.out 2).trans rfl; have hcy_3 : wr.cell? ⟨gb321, 3, none⟩ = some (.int .i64 ((rd_T69 l1 x8_2).f3)) := (blk_cell BK321.out 3).trans rfl; have hcy_4 : wr.cell? ⟨gb321, 4, none⟩ = some (.bool ((rd_T69 l1 x8_2).f4)) := (blk_cell BK321.out 4).trans rfl; have hcx_0 : wr.cell? ⟨gb292, 0, none⟩ = some (.int .i64 a0_0) := (blk_cell BK292.out 0).trans rfl; have hcx_1 : wr.cell? ⟨gb292, 1, none⟩ = some (.int .i64 a0_1) := (blk_cell BK292.out 1).trans rfl; have hcx_2 : wr.cell? ⟨gb292, 2, none⟩ = some (.int .i64 a0_2) := (blk_cell BK292.out 2).trans rfl; have hcx_3 : wr.cell? ⟨gb292, 3, none⟩ = some (.int .i64 a0_3) := (blk_cell BK292.out 3).trans rfl; have hcx_4 : wr.cell? ⟨gb292, 4, none⟩ = some (.int .i64 a0_4) := (blk_cell BK292.out 4).trans rfl; have hcx_5 : wr.cell? ⟨gb292, 5, none⟩ = some (.int .i64 a0_5) := (blk_cell BK292.out 5).trans rfl; have hcx_6 : wr.cell? ⟨gb292, 6, none⟩ = some (.int .i64 a0_6) := (blk_cell BK292.out 6).trans rfl)); have hnb108 := NB292_310.out; have hnc108 := NB310_292.out; have hcz109_0 : wr.cell? ⟨gb292, 0, none⟩ = some (.int .i64 a0_0) := (blk_cell BK292.out 0).trans rfl; have hcz109_1 : wr.cell? ⟨gb292, 1, none⟩ = some (.int .i64 a0_1) := (blk_cell BK292.out 1).trans rfl; have hcz109_2 : wr.cell? ⟨gb292, 2, none⟩ = some (.int .i64 a0_2) := (blk_cell BK292.out 2).trans rfl; have hcz109_3 : wr.cell? ⟨gb292, 3, none⟩ = some (.int .i64 a0_3) := (blk_cell BK292.out 3).trans rfl; have hcz109_4 : wr.cell? ⟨gb292, 4, none⟩ = some (.int .i64 a0_4) := (blk_cell BK292.out 4).trans rfl; have hcz109_5 : wr.cell? ⟨gb292, 5, none⟩ = some (.int .i64 a0_5) := (blk_cell BK292.out 5).trans rfl; have hcz109_6 : wr.cell? ⟨gb292, 6, none⟩ = some (.int .i64 a0_6) := (blk_cell BK292.out 6).trans rfl; have hfz109_0 := blk_frozen BK292.out 0; have hfz109_1 := blk_frozen BK292.out 1; have hfz109_2 := blk_frozen BK292.out 2; have hfz109_3 := blk_frozen BK292.out 3; have hfz109_4 := blk_frozen BK292.out 4; have hfz109_5 := blk_frozen BK292.out 5; have hfz109_6 := blk_frozen BK292.out 6) | ((with_reducible refine gate_callee (f := 23) rfl ?_); refine goesL_ (some 126) rfl rfl Try.func23 (by kernel_rfl) rfl #[.agg #[.int .i64 a0_0, .int .i64 a0_1, .int .i64 a0_2, .int .i64 a0_3, .int .i64 a0_4, .int .i64 a0_5, .int .i64 a0_6], .int .i64 (wrap64 (x8_2 + 1)), .int .i64 (wrap64 (6 + x10_4))] rfl (by (try simp only [List.map_toArray, List.map_cons, List.map_nil]); first | done | rfl | (simp only [List.length_drop, List.length_take]; rfl)) ?_; (with_reducible refine (stepstoneref04_Cell.calls a0_0 a0_1 a0_2 a0_3 a0_4 a0_5 a0_6 (wrap64 (x8_2 + 1)) (wrap64 (6 + x10_4)) t339 _ A101.out).mono ?_); rintro e w110 ⟨rfl, hb⟩; refine ⟨_, rfl, ?_⟩; have n0_ := Aside0.mk (Kd.R_below (by (with_reducible repeat (first | apply Kd.R_alloc | apply Kd.R_drewN | apply Kd.R_drew)); exact HO_6.out) hb); have n1_ := Aside0.mk (Kd.R_below (by (with_reducible repeat (first | apply Kd.R_alloc | apply Kd.R_drewN | apply Kd.R_drew)); exact HO_311007.out) hb); have n2_ := Aside0.mk (blk_below (g := gb292) (o := .cells #[.int .i64 a0_0, .int .i64 a0_1, .int .i64 a0_2, .int .i64 a0_3, .int .i64 a0_4, .int .i64 a0_5, .int .i64 a0_6] 23 (0, 0)) (by (with_reducible repeat (first | refine blk_drewN ?_ _ | refine blk_drew ?_ | refine blk_alloc ?_ _)); exact BK292.out) hb); have n3_ := Aside0.mk (blk_below (g := gb310) (o := .cells #[.int .i64 t293, .int .i64 t294, .int .i64 t295, .int .i64 t296, .int .i64 t297, .int .i64 t298, .int .i64 t299, .slice Ao11 t300.length co11, .int .i64 t303, .int .i64 t304, .int .i64 t305, .int .u64 t306, .int .u64 t307, .int .u64 t308, .bool t309] 50 (0, 0)) (by (with_reducible repeat (first | refine blk_drewN ?_ _ | refine blk_drew ?_ | refine blk_alloc ?_ _)); exact BK310.out) hb); have n4_ := Aside0.mk (blk_below (g := gb321) (o := .cells #[.int .u64 ((rd_T69 l1 x8_2).f0), .int .u64 ((rd_T69 l1 x8_2).f1), .int .i64 ((rd_T69 l1 x8_2).f2), .int .i64 ((rd_T69 l1 x8_2).f3), .bool ((rd_T69 l1 x8_2).f4)] 69 (0, 0)) (by (with_reducible repeat (first | refine blk_drewN ?_ _ | refine blk_drew ?_ | refine blk_alloc ?_ _)); exact BK321.out) hb); have n5_ := Aside0.mk (below_step (by repeat (first | (with_reducible first | exact HB.out | apply below_alloc | apply pw_below_drewN | apply below_drew1 | refine below_set ?_ GE292.out | refine below_set ?_ GE310.out | refine below_set ?_ GE321.out) | exact HB.out)) hb); clear HO_6; clear HO_311007; clear BK292; clear BK310; clear BK321; clear HB; have HO_6 := n0_; have HO_311007 := n1_; have BK292 := n2_; have BK310 := n3_; have BK321 := n4_; have HB := n5_; clear n0_ n1_ n2_ n3_ n4_ n5_; (try clear hb); (try clear hb2); (try clear hk); (try clear hi); have p104 : 0 ≤ (t339 : Int) := of_decide_eq_true (by first | (with_reducible assumption) | assumption); have q104 : (t339 : Int) < ((x6_4.length : Int) : Int) := of_decide_eq_true (by first | (with_reducible assumption) | assumption); obtain ⟨hx104_0, hf104_0⟩ := Kd.R_celln 0 HO_6.out (t339 : Int) p104 q104; replace p104 := eq_true p104; replace q104 := eq_true q104; obtain ⟨hy111_, hz111_⟩ := Kd.R_celln 0 HO_6.out (t339 : Int) (of_decide_eq_true (by first | (with_reducible assumption) | assumption)) (of_decide_eq_true (by first | (with_reducible assumption) | assumption)); have HP111 := Kd.R_putg HO_6.out (t339 : Int) t338) | ((with_reducible refine gate_store (t := 40) (p := 128) rfl ?_); refine store_event (t := 40) (p := 128) (v := ?vo_w112) (w1 := (w110.setCell ⟨go35, (t339 : Int).toNat, none⟩ (.int .u64 t338))) ?hg ?ho ?hn ?hr ?_; (case ho => rfl); (case hg => rfl); (case hn => rfl); (case hr => first | (go_simp; done) | (go_simp; rfl)); intro w112 hw; have hg : w110.grownBy w112 (some go35) := (by rw [hw]; exact HP111.2); have hp_ : Kd.R (Kd.int .u64) 40 w112 w.heap.size (fun k_ => some k_ ≠ (.slice Ao11 t300.length co11 : Value).ownBlock) (.slice (some ⟨go35, 0, none⟩) x6_4.length co35) y340 := (by rw [hw, Ny340.out]; exact HP111.1); clear HP111; have n0_ := Aside0.mk (hp_); have n1_ := Aside0.mk (Kd.R_after (v := (.slice (some ⟨go35, 0, none⟩) x6_4.length co35)) (v1 := (.slice (some ⟨go35, 0, none⟩) x6_4.length co35)) (ok := (fun _ => True)) (by (with_reducible repeat (first | apply Kd.R_alloc | apply Kd.R_drewN | apply Kd.R_drew)); exact Kd.R_mono HO_311007.out (fun _ hk => ⟨trivial, hk⟩)) hg (.inl rfl)); have n2_ := Aside0.mk (blk_grown (g := gb292) (o := .cells #[.int .i64 a0_0, .int .i64 a0_1, .int .i64 a0_2, .int .i64 a0_3, .int .i64 a0_4, .int .i64 a0_5, .int .i64 a0_6] 23 (0, 0)) (by (with_reducible repeat (first | refine blk_drewN ?_ _ | refine blk_drew ?_ | refine blk_alloc ?_ _)); exact BK292.out) hg (Kd.R_ne HO_6.out BK292.out (by decide))); have n3_ := Aside0.mk (blk_grown (g := gb310) (o := .cells #[.int .i64 t293, .int .i64 t294, .int .i64 t295, .int .i64 t296, .int .i64 t297, .int .i64 t298, .int .i64 t299, .slice Ao11 t300.length co11, .int .i64 t303, .int .i64 t304, .int .i64 t305, .int .u64 t306, .int .u64 t307, .int .u64 t308, .bool t309] 50 (0, 0)) (by (with_reducible repeat (first | refine blk_drewN ?_ _ | refine blk_drew ?_ | refine blk_alloc ?_ _)); exact BK310.out) hg (Kd.R_ne HO_6.out BK310.out (by decide))); have n4_ := Aside0.mk (blk_grown (g := gb321) (o := .cells #[.int .u64 ((rd_T69 l1 x8_2).f0), .int .u64 ((rd_T69 l1 x8_2).f1), .int .i64 ((rd_T69 l1 x8_2).f2), .int .i64 ((rd_T69 l1 x8_2).f3), .bool ((rd_T69 l1 x8_2).f4)] 69 (0, 0)) (by (with_reducible repeat (first | refine blk_drewN ?_ _ | refine blk_drew ?_ | refine blk_alloc ?_ _)); exact BK321.out) hg (Kd.R_ne HO_6.out BK321.out (by decide))); have n5_ := Aside0.mk ((by rw [hw]; exact below_set (HB.out) GB35.out : Below w.heap.size w w112)); clear HO_6; clear HO_311007; clear BK292; clear BK310; clear BK321; clear HB; have HO_6 := n0_; have HO_311007 := n1_; have BK292 := n2_; have BK310 := n3_; have BK321 := n4_; have HB := n5_; clear n0_ n1_ n2_ n3_ n4_ n5_; clear hg hw hp_))
                             (try simp only [← hl6_4])
                             go_roundg k4
                             case measure => have := HK1.out; have := HK2.out; have := HJ43.out; have := HK4.out; omega
                             case rel => exact ⟨(y340), (wrap64 (x10_4 + 1)), (by first | rfl | (simp; done) | (simp [*]; done)), H', ⟨by have := HK1.out; have := HK2.out; have := HJ43.out; have := HK4.out; omega⟩, ⟨by (try simp only [hl6_43]); (try simp only [hl6_4]); (with_reducible repeat (first | apply Kd.R_alloc | apply Kd.R_drewN | apply Kd.R_drew)); exact HO_6.out⟩, ⟨by (try simp only [hl6_43]); (try simp only [hl6_4]); (with_reducible repeat (first | apply Kd.R_alloc | apply Kd.R_drewN | apply Kd.R_drew)); exact Kd.R_mono HO_311007.out (fun _ hk => hk.2)⟩, ⟨by (try simp only [hl6_43]); (try simp only [hl6_4]); (with_reducible repeat (first | refine blk_drewN ?_ _ | refine blk_drew ?_ | refine blk_alloc ?_ _)); exact BK292.out⟩, ⟨by (try simp only [hl6_43]); (try simp only [hl6_4]); (with_reducible repeat (first | refine blk_drewN ?_ _ | refine blk_drew ?_ | refine blk_alloc ?_ _)); exact BK310.out⟩, ⟨by (try simp only [hl6_43]); (try simp only [hl6_4]); (with_reducible repeat (first | refine blk_drewN ?_ _ | refine blk_drew ?_ | refine blk_alloc ?_ _)); exact BK321.out⟩, ⟨by repeat (first | (with_reducible first | exact HB.out | apply below_alloc | apply pw_below_drewN | apply below_drew1 | refine below_set ?_ GE292.out | refine below_set ?_ GE310.out | refine below_set ?_ GE321.out) | exact HB.out)⟩⟩
                            ·rw [if_neg c103] at H
                             exact absurd H (by simp)
                           ·rw [if_neg c102] at H
                            exact absurd H (by simp)
                          ·rw [if_neg c99] at H
                           have c99b0 : decide ((wrap64 (((rd_T69 l1 x8_2).f2) - ((rd_T69 l1 x8_2).f3))) ≤ x10_4) = false := decide_eq_false c99
                           clear c99
                           replace H := Option.bind_eq_some_iff.mp H
                           obtain ⟨t341, A1130, H⟩ := H
                           replace H : (if 0 ≤ t341 then (if t341 < (x6_4.length : Int) then (stepstoneref11_Lay.l2 k4 l1 (x6_4.set (t341 : Int).toNat t337) x8_2 (wrap64 (x10_4 + 1)) a0_0 a0_1 a0_2 a0_3 a0_4 a0_5 a0_6 ((rd_T69 l1 x8_2).f0) ((rd_T69 l1 x8_2).f1) ((rd_T69 l1 x8_2).f2) ((rd_T69 l1 x8_2).f3) ((rd_T69 l1 x8_2).f4)) else (none)) else (none)) = some r := H
                           have A113 := Aside0.mk A1130
                           clear A1130
                           by_cases c114 : 0 ≤ t341
                           ·rw [if_pos c114] at H
                            have c114b0 : decide (0 ≤ t341) = true := decide_eq_true c114
                            clear c114
                            by_cases c115 : t341 < (x6_4.length : Int)
                            ·rw [if_pos c115] at H
                             have c115b0 : decide (t341 < (x6_4.length : Int)) = true := decide_eq_true c115
                             clear c115
                             obtain ⟨y342, hy342⟩ : ∃ y_ : List Int, y_ = (x6_4.set (t341 : Int).toNat t337) := ⟨_, rfl⟩
                             replace H : (stepstoneref11_Lay.l2 k4 l1 y342 x8_2 (wrap64 (x10_4 + 1)) a0_0 a0_1 a0_2 a0_3 a0_4 a0_5 a0_6 ((rd_T69 l1 x8_2).f0) ((rd_T69 l1 x8_2).f1) ((rd_T69 l1 x8_2).f2) ((rd_T69 l1 x8_2).f3) ((rd_T69 l1 x8_2).f4)) = some r := by first | (rw [hy342]; with_reducible exact H) | (have H2_ := (Option.bind_some _ _).symm.trans H; rw [hy342]; with_reducible exact H2_) | (have H2_ := (Option.bind_some _ _).symm.trans H; with_reducible exact H2_) | with_reducible exact H | (rw [hy342]; exact H) | exact H
                             have Ny342 := Aside0.mk hy342
                             clear hy342
                             have H' := Aside0.mk H
                             clear H
                             have hnb117 := NB321_292.out
                             have hnc117 := NB292_321.out
                             have hnb118 := NB321_310.out
                             have hnc118 := NB310_321.out
                             have hcz119_0 : wr.cell? ⟨gb321, 0, none⟩ = some (.int .u64 ((rd_T69 l1 x8_2).f0)) := (blk_cell BK321.out 0).trans rfl
                             have hcz119_1 : wr.cell? ⟨gb321, 1, none⟩ = some (.int .u64 ((rd_T69 l1 x8_2).f1)) := (blk_cell BK321.out 1).trans rfl
                             have hcz119_2 : wr.cell? ⟨gb321, 2, none⟩ = some (.int .i64 ((rd_T69 l1 x8_2).f2)) := (blk_cell BK321.out 2).trans rfl
                             have hcz119_3 : wr.cell? ⟨gb321, 3, none⟩ = some (.int .i64 ((rd_T69 l1 x8_2).f3)) := (blk_cell BK321.out 3).trans rfl
                             have hcz119_4 : wr.cell? ⟨gb321, 4, none⟩ = some (.bool ((rd_T69 l1 x8_2).f4)) := (blk_cell BK321.out 4).trans rfl
                             have hfz119_0 := blk_frozen BK321.out 0
                             have hfz119_1 := blk_frozen BK321.out 1
                             have hfz119_2 := blk_frozen BK321.out 2
                             have hfz119_3 := blk_frozen BK321.out 3
                             have hfz119_4 := blk_frozen BK321.out 4
                             go_wp2_with (first | ((with_reducible refine gate_callee (f := 60) rfl ?_); refine goesL_ (some 110) rfl rfl Try.func60 (by kernel_rfl) rfl #[.slice (some ad320) l1.length c1, .int .i64 x8_2, .int .i64 x10_4] rfl (by (try simp only [List.map_toArray, List.map_cons, List.map_nil]); first | done | rfl | (simp only [List.length_drop, List.length_take]; rfl)) ?_; (with_reducible refine (stepstoneref11_behind.calls k4 _ _ l1 x8_2 x10_4 t337 _ ?side1 ?side2 A98.out).mono ?_); (case side1 => repeat (first | exact (Kd.C_below HR1.out HB.out) | (with_reducible refine Kd.C_alloc ?_ _) | (with_reducible refine Kd.C_drewN ?_ _) | (with_reducible refine Kd.C_drew ?_))); (case side2 => exact HC1.out); rintro e w' ⟨rfl, ⟨nd, rfl⟩⟩; refine ⟨_, rfl, ?_⟩; (try (rw [drewN_self wr]; generalize hq_ : World.drewN wr _ = wr; have n0_ : Aside0 (Kd.R (Kd.int .u64) 40 wr w.heap.size (fun k_ => some k_ ≠ (.slice (some ⟨go35, 0, none⟩) x6_4.length co35 : Value).ownBlock) (.slice Ao11 t300.length co11) t300) := ⟨by rw [← hq_]; exact (by (with_reducible repeat (first | apply Kd.R_alloc | apply Kd.R_drewN | apply Kd.R_drew)); exact HO_311007.out)⟩; have n1_ : Aside0 (Kd.R (Kd.int .u64) 40 wr w.heap.size (fun k_ => some k_ ≠ (.slice Ao11 t300.length co11 : Value).ownBlock) (.slice (some ⟨go35, 0, none⟩) x6_4.length co35) x6_4) := ⟨by rw [← hq_]; exact (by (with_reducible repeat (first | apply Kd.R_alloc | apply Kd.R_drewN | apply Kd.R_drew)); exact HO_6.out)⟩; have n2_ : Aside0 (wr.heap[gb292]? = some (.cells #[.int .i64 a0_0, .int .i64 a0_1, .int .i64 a0_2, .int .i64 a0_3, .int .i64 a0_4, .int .i64 a0_5, .int .i64 a0_6] 23 (0, 0))) := ⟨by rw [← hq_]; exact (by (with_reducible repeat (first | refine blk_drewN ?_ _ | refine blk_drew ?_ | refine blk_alloc ?_ _)); exact BK292.out)⟩; have n3_ : Aside0 (wr.heap[gb310]? = some (.cells #[.int .i64 t293, .int .i64 t294, .int .i64 t295, .int .i64 t296, .int .i64 t297, .int .i64 t298, .int .i64 t299, .slice Ao11 t300.length co11, .int .i64 t303, .int .i64 t304, .int .i64 t305, .int .u64 t306, .int .u64 t307, .int .u64 t308, .bool t309] 50 (0, 0))) := ⟨by rw [← hq_]; exact (by (with_reducible repeat (first | refine blk_drewN ?_ _ | refine blk_drew ?_ | refine blk_alloc ?_ _)); exact BK310.out)⟩; have n4_ : Aside0 (wr.heap[gb321]? = some (.cells #[.int .u64 ((rd_T69 l1 x8_2).f0), .int .u64 ((rd_T69 l1 x8_2).f1), .int .i64 ((rd_T69 l1 x8_2).f2), .int .i64 ((rd_T69 l1 x8_2).f3), .bool ((rd_T69 l1 x8_2).f4)] 69 (0, 0))) := ⟨by rw [← hq_]; exact (by (with_reducible repeat (first | refine blk_drewN ?_ _ | refine blk_drew ?_ | refine blk_alloc ?_ _)); exact BK321.out)⟩; have n5_ : Aside0 (Below w.heap.size w wr) := ⟨by rw [← hq_]; exact (by repeat (first | (with_reducible first | exact HB.out | apply below_alloc | apply pw_below_drewN | apply below_drew1 | refine below_set ?_ GE292.out | refine below_set ?_ GE310.out | refine below_set ?_ GE321.out) | exact HB.out))⟩; clear HO_311007 HO_6 BK292 BK310 BK321 HB hq_; have HO_311007 := n0_; have HO_6 := n1_; have BK292 := n2_; have BK310 := n3_; have BK321 := n4_; have HB := n5_; clear n0_ n1_ n2_ n3_ n4_ n5_; have hcy_0 : wr.cell? ⟨gb321, 0, none⟩ = some (.int .u64 ((rd_T69 l1 x8_2).f0)) := (blk_cell BK321.out 0).trans rfl; have hcy_1 : wr.cell? ⟨gb321, 1, none⟩ = some (.int .u64 ((rd_T69 l1 x8_2).f1)) := (blk_cell BK321.out 1).trans rfl; have hcy_2 : wr.cell? ⟨gb321, 2, none⟩ = some (.int .i64 ((rd_T69 l1 x8_2).f2)) := (blk_cell BK321.out 2).trans rfl; have hcy_3 : wr.cell? ⟨gb321, 3, none⟩ = some (.int .i64 ((rd_T69 l1 x8_2).f3)) := (blk_cell BK321.out 3).trans rfl; have hcy_4 : wr.cell? ⟨gb321, 4, none⟩ = some (.bool ((rd_T69 l1 x8_2).f4)) := (blk_cell BK321.out 4).trans rfl; have hcx_0 : wr.cell? ⟨gb292, 0, none⟩ = some (.int .i64 a0_0) := (blk_cell BK292.out 0).trans rfl; have hcx_1 : wr.cell? ⟨gb292, 1, none⟩ = some (.int .i64 a0_1) := (blk_cell BK292.out 1).trans rfl; have hcx_2 : wr.cell? ⟨gb292, 2, none⟩ = some (.int .i64 a0_2) := (blk_cell BK292.out 2).trans rfl; have hcx_3 : wr.cell? ⟨gb292, 3, none⟩ = some (.int .i64 a0_3) := (blk_cell BK292.out 3).trans rfl; have hcx_4 : wr.cell? ⟨gb292, 4, none⟩ = some (.int .i64 a0_4) := (blk_cell BK292.out 4).trans rfl; have hcx_5 : wr.cell? ⟨gb292, 5, none⟩ = some (.int .i64 a0_5) := (blk_cell BK292.out 5).trans rfl; have hcx_6 : wr.cell? ⟨gb292, 6, none⟩ = some (.int .i64 a0_6) := (blk_cell BK292.out 6).trans rfl)); have hnb120 := NB292_310.out; have hnc120 := NB310_292.out; have hcz121_0 : wr.cell? ⟨gb292, 0, none⟩ = some (.int .i64 a0_0) := (blk_cell BK292.out 0).trans rfl; have hcz121_1 : wr.cell? ⟨gb292, 1, none⟩ = some (.int .i64 a0_1) := (blk_cell BK292.out 1).trans rfl; have hcz121_2 : wr.cell? ⟨gb292, 2, none⟩ = some (.int .i64 a0_2) := (blk_cell BK292.out 2).trans rfl; have hcz121_3 : wr.cell? ⟨gb292, 3, none⟩ = some (.int .i64 a0_3) := (blk_cell BK292.out 3).trans rfl; have hcz121_4 : wr.cell? ⟨gb292, 4, none⟩ = some (.int .i64 a0_4) := (blk_cell BK292.out 4).trans rfl; have hcz121_5 : wr.cell? ⟨gb292, 5, none⟩ = some (.int .i64 a0_5) := (blk_cell BK292.out 5).trans rfl; have hcz121_6 : wr.cell? ⟨gb292, 6, none⟩ = some (.int .i64 a0_6) := (blk_cell BK292.out 6).trans rfl; have hfz121_0 := blk_frozen BK292.out 0; have hfz121_1 := blk_frozen BK292.out 1; have hfz121_2 := blk_frozen BK292.out 2; have hfz121_3 := blk_frozen BK292.out 3; have hfz121_4 := blk_frozen BK292.out 4; have hfz121_5 := blk_frozen BK292.out 5; have hfz121_6 := blk_frozen BK292.out 6) | ((with_reducible refine gate_callee (f := 23) rfl ?_); refine goesL_ (some 126) rfl rfl Try.func23 (by kernel_rfl) rfl #[.agg #[.int .i64 a0_0, .int .i64 a0_1, .int .i64 a0_2, .int .i64 a0_3, .int .i64 a0_4, .int .i64 a0_5, .int .i64 a0_6], .int .i64 (wrap64 (x8_2 + 1)), .int .i64 (wrap64 (6 + x10_4))] rfl (by (try simp only [List.map_toArray, List.map_cons, List.map_nil]); first | done | rfl | (simp only [List.length_drop, List.length_take]; rfl)) ?_; (with_reducible refine (stepstoneref04_Cell.calls a0_0 a0_1 a0_2 a0_3 a0_4 a0_5 a0_6 (wrap64 (x8_2 + 1)) (wrap64 (6 + x10_4)) t341 _ A113.out).mono ?_); rintro e w122 ⟨rfl, hb⟩; refine ⟨_, rfl, ?_⟩; have n0_ := Aside0.mk (Kd.R_below (by (with_reducible repeat (first | apply Kd.R_alloc | apply Kd.R_drewN | apply Kd.R_drew)); exact HO_6.out) hb); have n1_ := Aside0.mk (Kd.R_below (by (with_reducible repeat (first | apply Kd.R_alloc | apply Kd.R_drewN | apply Kd.R_drew)); exact HO_311007.out) hb); have n2_ := Aside0.mk (blk_below (g := gb292) (o := .cells #[.int .i64 a0_0, .int .i64 a0_1, .int .i64 a0_2, .int .i64 a0_3, .int .i64 a0_4, .int .i64 a0_5, .int .i64 a0_6] 23 (0, 0)) (by (with_reducible repeat (first | refine blk_drewN ?_ _ | refine blk_drew ?_ | refine blk_alloc ?_ _)); exact BK292.out) hb); have n3_ := Aside0.mk (blk_below (g := gb310) (o := .cells #[.int .i64 t293, .int .i64 t294, .int .i64 t295, .int .i64 t296, .int .i64 t297, .int .i64 t298, .int .i64 t299, .slice Ao11 t300.length co11, .int .i64 t303, .int .i64 t304, .int .i64 t305, .int .u64 t306, .int .u64 t307, .int .u64 t308, .bool t309] 50 (0, 0)) (by (with_reducible repeat (first | refine blk_drewN ?_ _ | refine blk_drew ?_ | refine blk_alloc ?_ _)); exact BK310.out) hb); have n4_ := Aside0.mk (blk_below (g := gb321) (o := .cells #[.int .u64 ((rd_T69 l1 x8_2).f0), .int .u64 ((rd_T69 l1 x8_2).f1), .int .i64 ((rd_T69 l1 x8_2).f2), .int .i64 ((rd_T69 l1 x8_2).f3), .bool ((rd_T69 l1 x8_2).f4)] 69 (0, 0)) (by (with_reducible repeat (first | refine blk_drewN ?_ _ | refine blk_drew ?_ | refine blk_alloc ?_ _)); exact BK321.out) hb); have n5_ := Aside0.mk (below_step (by repeat (first | (with_reducible first | exact HB.out | apply below_alloc | apply pw_below_drewN | apply below_drew1 | refine below_set ?_ GE292.out | refine below_set ?_ GE310.out | refine below_set ?_ GE321.out) | exact HB.out)) hb); clear HO_6; clear HO_311007; clear BK292; clear BK310; clear BK321; clear HB; have HO_6 := n0_; have HO_311007 := n1_; have BK292 := n2_; have BK310 := n3_; have BK321 := n4_; have HB := n5_; clear n0_ n1_ n2_ n3_ n4_ n5_; (try clear hb); (try clear hb2); (try clear hk); (try clear hi); have p116 : 0 ≤ (t341 : Int) := of_decide_eq_true (by first | (with_reducible assumption) | assumption); have q116 : (t341 : Int) < ((x6_4.length : Int) : Int) := of_decide_eq_true (by first | (with_reducible assumption) | assumption); obtain ⟨hx116_0, hf116_0⟩ := Kd.R_celln 0 HO_6.out (t341 : Int) p116 q116; replace p116 := eq_true p116; replace q116 := eq_true q116; obtain ⟨hy123_, hz123_⟩ := Kd.R_celln 0 HO_6.out (t341 : Int) (of_decide_eq_true (by first | (with_reducible assumption) | assumption)) (of_decide_eq_true (by first | (with_reducible assumption) | assumption)); have HP123 := Kd.R_putg HO_6.out (t341 : Int) t337) | ((with_reducible refine gate_store (t := 40) (p := 128) rfl ?_); refine store_event (t := 40) (p := 128) (v := ?vo_w124) (w1 := (w122.setCell ⟨go35, (t341 : Int).toNat, none⟩ (.int .u64 t337))) ?hg ?ho ?hn ?hr ?_; (case ho => rfl); (case hg => rfl); (case hn => rfl); (case hr => first | (go_simp; done) | (go_simp; rfl)); intro w124 hw; have hg : w122.grownBy w124 (some go35) := (by rw [hw]; exact HP123.2); have hp_ : Kd.R (Kd.int .u64) 40 w124 w.heap.size (fun k_ => some k_ ≠ (.slice Ao11 t300.length co11 : Value).ownBlock) (.slice (some ⟨go35, 0, none⟩) x6_4.length co35) y342 := (by rw [hw, Ny342.out]; exact HP123.1); clear HP123; have n0_ := Aside0.mk (hp_); have n1_ := Aside0.mk (Kd.R_after (v := (.slice (some ⟨go35, 0, none⟩) x6_4.length co35)) (v1 := (.slice (some ⟨go35, 0, none⟩) x6_4.length co35)) (ok := (fun _ => True)) (by (with_reducible repeat (first | apply Kd.R_alloc | apply Kd.R_drewN | apply Kd.R_drew)); exact Kd.R_mono HO_311007.out (fun _ hk => ⟨trivial, hk⟩)) hg (.inl rfl)); have n2_ := Aside0.mk (blk_grown (g := gb292) (o := .cells #[.int .i64 a0_0, .int .i64 a0_1, .int .i64 a0_2, .int .i64 a0_3, .int .i64 a0_4, .int .i64 a0_5, .int .i64 a0_6] 23 (0, 0)) (by (with_reducible repeat (first | refine blk_drewN ?_ _ | refine blk_drew ?_ | refine blk_alloc ?_ _)); exact BK292.out) hg (Kd.R_ne HO_6.out BK292.out (by decide))); have n3_ := Aside0.mk (blk_grown (g := gb310) (o := .cells #[.int .i64 t293, .int .i64 t294, .int .i64 t295, .int .i64 t296, .int .i64 t297, .int .i64 t298, .int .i64 t299, .slice Ao11 t300.length co11, .int .i64 t303, .int .i64 t304, .int .i64 t305, .int .u64 t306, .int .u64 t307, .int .u64 t308, .bool t309] 50 (0, 0)) (by (with_reducible repeat (first | refine blk_drewN ?_ _ | refine blk_drew ?_ | refine blk_alloc ?_ _)); exact BK310.out) hg (Kd.R_ne HO_6.out BK310.out (by decide))); have n4_ := Aside0.mk (blk_grown (g := gb321) (o := .cells #[.int .u64 ((rd_T69 l1 x8_2).f0), .int .u64 ((rd_T69 l1 x8_2).f1), .int .i64 ((rd_T69 l1 x8_2).f2), .int .i64 ((rd_T69 l1 x8_2).f3), .bool ((rd_T69 l1 x8_2).f4)] 69 (0, 0)) (by (with_reducible repeat (first | refine blk_drewN ?_ _ | refine blk_drew ?_ | refine blk_alloc ?_ _)); exact BK321.out) hg (Kd.R_ne HO_6.out BK321.out (by decide))); have n5_ := Aside0.mk ((by rw [hw]; exact below_set (HB.out) GB35.out : Below w.heap.size w w124)); clear HO_6; clear HO_311007; clear BK292; clear BK310; clear BK321; clear HB; have HO_6 := n0_; have HO_311007 := n1_; have BK292 := n2_; have BK310 := n3_; have BK321 := n4_; have HB := n5_; clear n0_ n1_ n2_ n3_ n4_ n5_; clear hg hw hp_))
                             (try simp only [← hl6_4])
                             go_roundg k4
                             case measure => have := HK1.out; have := HK2.out; have := HJ43.out; have := HK4.out; omega
                             case rel => exact ⟨(y342), (wrap64 (x10_4 + 1)), (by first | rfl | (simp; done) | (simp [*]; done)), H', ⟨by have := HK1.out; have := HK2.out; have := HJ43.out; have := HK4.out; omega⟩, ⟨by (try simp only [hl6_43]); (try simp only [hl6_4]); (with_reducible repeat (first | apply Kd.R_alloc | apply Kd.R_drewN | apply Kd.R_drew)); exact HO_6.out⟩, ⟨by (try simp only [hl6_43]); (try simp only [hl6_4]); (with_reducible repeat (first | apply Kd.R_alloc | apply Kd.R_drewN | apply Kd.R_drew)); exact Kd.R_mono HO_311007.out (fun _ hk => hk.2)⟩, ⟨by (try simp only [hl6_43]); (try simp only [hl6_4]); (with_reducible repeat (first | refine blk_drewN ?_ _ | refine blk_drew ?_ | refine blk_alloc ?_ _)); exact BK292.out⟩, ⟨by (try simp only [hl6_43]); (try simp only [hl6_4]); (with_reducible repeat (first | refine blk_drewN ?_ _ | refine blk_drew ?_ | refine blk_alloc ?_ _)); exact BK310.out⟩, ⟨by (try simp only [hl6_43]); (try simp only [hl6_4]); (with_reducible repeat (first | refine blk_drewN ?_ _ | refine blk_drew ?_ | refine blk_alloc ?_ _)); exact BK321.out⟩, ⟨by repeat (first | (with_reducible first | exact HB.out | apply below_alloc | apply pw_below_drewN | apply below_drew1 | refine below_set ?_ GE292.out | refine below_set ?_ GE310.out | refine below_set ?_ GE321.out) | exact HB.out)⟩⟩
                            ·rw [if_neg c115] at H
                             exact absurd H (by simp)
                           ·rw [if_neg c114] at H
                            exact absurd H (by simp)
                         ·rw [if_neg c97] at H
                          have c97b0 : decide (x10_4 < ((rd_T69 l1 x8_2).f2)) = false := decide_eq_false c97
                          clear c97
                          have H' := Aside0.mk H
                          clear H
                          have hnb125 := NB321_292.out
                          have hnc125 := NB292_321.out
                          have hnb126 := NB321_310.out
                          have hnc126 := NB310_321.out
                          have hcz127_0 : wr.cell? ⟨gb321, 0, none⟩ = some (.int .u64 ((rd_T69 l1 x8_2).f0)) := (blk_cell BK321.out 0).trans rfl
                          have hcz127_1 : wr.cell? ⟨gb321, 1, none⟩ = some (.int .u64 ((rd_T69 l1 x8_2).f1)) := (blk_cell BK321.out 1).trans rfl
                          have hcz127_2 : wr.cell? ⟨gb321, 2, none⟩ = some (.int .i64 ((rd_T69 l1 x8_2).f2)) := (blk_cell BK321.out 2).trans rfl
                          have hcz127_3 : wr.cell? ⟨gb321, 3, none⟩ = some (.int .i64 ((rd_T69 l1 x8_2).f3)) := (blk_cell BK321.out 3).trans rfl
                          have hcz127_4 : wr.cell? ⟨gb321, 4, none⟩ = some (.bool ((rd_T69 l1 x8_2).f4)) := (blk_cell BK321.out 4).trans rfl
                          have hfz127_0 := blk_frozen BK321.out 0
                          have hfz127_1 := blk_frozen BK321.out 1
                          have hfz127_2 := blk_frozen BK321.out 2
                          have hfz127_3 := blk_frozen BK321.out 3
                          have hfz127_4 := blk_frozen BK321.out 4
                          go_wp2
                          (try simp only [← hl6_43, ← hl6_4])
                          go_roundg k4
                          case measure => have := HK1.out; have := HK2.out; have := HJ43.out; have := HK4.out; omega
                          case rel => exact ⟨(x6_4), (wrap64 (x8_2 + 1)), (by first | rfl | (simp; done) | (simp [*]; done)), H', ⟨by have := HK1.out; have := HK2.out; have := HJ43.out; have := HK4.out; omega⟩, ⟨by (try simp only [hl6_43]); (try simp only [hl6_4]); (with_reducible repeat (first | apply Kd.R_alloc | apply Kd.R_drewN | apply Kd.R_drew)); exact HO_6.out⟩, ⟨by (try simp only [hl6_43]); (try simp only [hl6_4]); (with_reducible repeat (first | apply Kd.R_alloc | apply Kd.R_drewN | apply Kd.R_drew)); exact HO_311007.out⟩, ⟨by (try simp only [hl6_43]); (try simp only [hl6_4]); (with_reducible repeat (first | refine blk_drewN ?_ _ | refine blk_drew ?_ | refine blk_alloc ?_ _)); exact BK292.out⟩, ⟨by (try simp only [hl6_43]); (try simp only [hl6_4]); (with_reducible repeat (first | refine blk_drewN ?_ _ | refine blk_drew ?_ | refine blk_alloc ?_ _)); exact BK310.out⟩, ⟨by repeat (first | (with_reducible first | exact HB.out | apply below_alloc | apply pw_below_drewN | apply below_drew1 | refine below_set ?_ GE292.out | refine below_set ?_ GE310.out | refine below_set ?_ GE321.out) | exact HB.out)⟩⟩
                      ·rw [if_neg c82] at H
                       exact absurd H (by simp)
                     ·rw [if_neg c81] at H
                      exact absurd H (by simp)
                    ·rw [if_neg c78] at H
                     exact absurd H (by simp)
                   ·rw [if_neg c77] at H
                    exact absurd H (by simp)
                  ·rw [if_neg c74] at H
                   exact absurd H (by simp)
                 ·rw [if_neg c73] at H
                  exact absurd H (by simp)
              ·rw [if_neg c42] at H
               exact absurd H (by simp)
             ·rw [if_neg c41] at H
              exact absurd H (by simp)
            ·rw [if_neg c38] at H
             exact absurd H (by simp)
           ·rw [if_neg c37] at H
            exact absurd H (by simp)
          ·rw [if_neg c34] at H
           exact absurd H (by simp)
         ·rw [if_neg c33] at H
          exact absurd H (by simp)
        ·rw [if_neg c30] at H
         exact absurd H (by simp)
       ·rw [if_neg c29] at H
        have c29b0 : decide (x8_2 < (l1.length : Int)) = false := decide_eq_false c29
        clear c29
        obtain rfl := Option.some.inj H
        go_wp2
        go_ret
        exact ⟨_, by first | rfl | (simp [errW_none, errW_some] <;> rfl) | (simp [*, errW_none, errW_some] <;> rfl), by (with_reducible repeat (first | apply Kd.R_alloc | apply Kd.R_drewN | apply Kd.R_drew)); exact Kd.R_mono HO_6.out (fun _ hk => trivial), by repeat (first | (with_reducible first | exact HB.out | apply below_alloc | apply pw_below_drewN | apply below_drew1 | refine below_set ?_ GE292.out | refine below_set ?_ GE310.out) | exact HB.out)⟩
 ·rw [if_neg c4] at H
  exact absurd H (by simp)
end Go.Proofs.Ythbkncklliiooaa.Q
