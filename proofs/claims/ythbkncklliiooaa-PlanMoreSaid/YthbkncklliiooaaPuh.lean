/-
  PlanApart: the walk.
-/
import Derived.Test.YthbkncklliiooaaHq
import Derived.Test.YthbkncklliiooaaPub
import Derived.Test.YthbkncklliiooaaReg
namespace Go.Proofs.YthbkncklliiooaaH
set_option linter.unusedVariables false
set_option linter.unusedSimpArgs false
open Go.RowKit Go.Proofs.Ythbkncklliiooaa.Q

theorem Calls.st_gr {P : Program} {f : FuncId} {args : Array Value} {W : World} {s : St (Gr W)} {v : Value}
    (h : Calls P f args s.val fun e w' => e = .returned v ∧ Gr s.val w') : Calls P f args s.val fun e w'' => e = .returned v ∧ ∃ s' : St (Gr W), w'' = s'.val :=
  h.mono fun _ w' ⟨he, hi⟩ => ⟨he, ⟨w', s.ok.trans hi⟩, rfl⟩

theorem CfAt.st {w : World} {b : Nat} {c : Cf} (h : CfAt w b c) : (∀ s : St (Gr w), s.val.cell? ⟨b, 0, none⟩ = some (.int .i64 c.th)) ∧ (∀ s : St (Gr w), s.val.cell? ⟨b, 1, none⟩ = some (.int .i64 c.sl)) ∧ (∀ s : St (Gr w), s.val.cell? ⟨b, 2, none⟩ = some (.int .i64 c.cp)) ∧
    (∀ s : St (Gr w), s.val.cell? ⟨b, 3, none⟩ = some (.int .i64 c.he)) ∧ (∀ s : St (Gr w), s.val.cell? ⟨b, 4, none⟩ = some (.int .i64 c.ke)) ∧ (∀ s : St (Gr w), s.val.cell? ⟨b, 5, none⟩ = some (.int .i64 c.ev)) ∧ (∀ s : St (Gr w), s.val.cell? ⟨b, 6, none⟩ = some (.int .i64 c.la)) :=
  ⟨fun s => (Blk.gr h s.ok).cell rfl, fun s => (Blk.gr h s.ok).cell rfl, fun s => (Blk.gr h s.ok).cell rfl, fun s => (Blk.gr h s.ok).cell rfl, fun s => (Blk.gr h s.ok).cell rfl, fun s => (Blk.gr h s.ok).cell rfl, fun s => (Blk.gr h s.ok).cell rfl⟩

/-- Two numbers in memory. -/
def TwoAt (w : World) (b : Nat) (x y : Int) : Prop := Blk w b #[.int .i64 x, .int .i64 y] 35
theorem TwoAt.st {w : World} {b : Nat} {x y : Int} (h : TwoAt w b x y) : (∀ s : St (Gr w), s.val.cell? ⟨b, 0, none⟩ = some (.int .i64 x)) ∧ (∀ s : St (Gr w), s.val.cell? ⟨b, 1, none⟩ = some (.int .i64 y)) :=
  ⟨fun s => (Blk.gr h s.ok).cell rfl, fun s => (Blk.gr h s.ok).cell rfl⟩
theorem TwoAt.c2 {w : World} {b : Nat} {x y : Int} (h : TwoAt w b x y) : w.cell? ⟨b, 0, none⟩ = some (.int .i64 x) ∧ w.cell? ⟨b, 1, none⟩ = some (.int .i64 y) := ⟨Blk.cell h rfl, Blk.cell h rfl⟩

def Cf.val (c : Cf) : Value := .agg #[.int .i64 c.th, .int .i64 c.sl, .int .i64 c.cp, .int .i64 c.he, .int .i64 c.ke, .int .i64 c.ev, .int .i64 c.la]

theorem cell_any (c : Cf) (a b : Int) (w : World) : Calls Try.prog 21 #[c.val, .int .i64 a, .int .i64 b] w fun e w' => e = .returned (.int .i64 (c.cel a b)) ∧ Gr w w' :=
  plan_Cell.calls 1 c.th c.sl c.cp c.he c.ke c.ev c.la a b _ w (cell_f c a b 0)
theorem reserved_any (c : Cf) (a b : Int) (w : World) : Calls Try.prog 20 #[c.val, .int .i64 a, .int .i64 b] w fun e w' => e = .returned (.int .i64 (c.res a b)) ∧ Gr w w' :=
  plan_Reserved.calls c.th c.sl c.cp c.he c.ke c.ev c.la a b _ w (reserved_f c a b)
theorem len_any (c : Cf) (w : World) : Calls Try.prog 18 #[c.val] w fun e w' => e = .returned (.int .i64 c.cells) ∧ Gr w w' :=
  plan_Len.calls c.th c.sl c.cp c.he c.ke c.ev c.la _ w (len_f c)
theorem right_any (c : Cf) (w : World) : Calls Try.prog 16 #[c.val] w fun e w' => e = .returned (.bool (decide c.Ok)) ∧ Gr w w' :=
  plan_Right.calls c.th c.sl c.cp c.he c.ke c.ev c.la _ w (right_f c)

theorem or_mk {x y : Int} {b : Bool} (h : 0 ≤ x → 0 ≤ y → b = true) : (decide (x < 0) || decide (y < 0) || b) = true := by
  by_cases hx : x < 0
  · simp [hx]
  · by_cases hy : y < 0
    · simp [hy]
    · rw [h (by omega) (by omega)]; simp
theorem or_of {x y : Int} {b c : Bool} (h : (decide (x < 0) || decide (y < 0) || b == c) = true) : (x < 0 ∨ y < 0) ∨ b = c := by
  simpa [or_assoc] using h

theorem TwoAtC.gr {w w' : World} {b : Nat} {x y : Int} (h : w.cell? ⟨b, 0, none⟩ = some (.int .i64 x) ∧ w.cell? ⟨b, 1, none⟩ = some (.int .i64 y)) (g : Gr w w') : w'.cell? ⟨b, 0, none⟩ = some (.int .i64 x) ∧ w'.cell? ⟨b, 1, none⟩ = some (.int .i64 y) := ⟨g.cell h.1, g.cell h.2⟩

set_option maxRecDepth 100000 in
set_option maxHeartbeats 4000000 in
theorem planApart_walk (c : Cf) (a0 a1 b0 b1 : Int) (w : World) :
    Calls Try.prog 6 #[.agg #[.int .i64 c.th, .int .i64 c.sl, .int .i64 c.cp, .int .i64 c.he, .int .i64 c.ke, .int .i64 c.ev, .int .i64 c.la], .agg #[.int .i64 a0, .int .i64 a1], .agg #[.int .i64 b0, .int .i64 b1]] w fun e w' => e = .returned (.bool true) ∧ Below w.heap.size w w' := by
  have hx := cell_any c a0 a1
  have hy := cell_any c b0 b1
  have hp := reserved_any c a0 a1
  have hq := reserved_any c b0 b1
  have n1 : ¬ (0 ≤ c.cel a0 a1 ∧ (c.cel a0 a1 = c.res b0 b1 ∨ c.cel a0 a1 = 0)) := fun ⟨h, k⟩ => k.elim (cel_ne_res c h) (cel_pos c h)
  have n2 : c.res b0 b1 ≠ 0 := res_pos c
  have n3 : 0 ≤ c.cel a0 a1 → 0 ≤ c.cel b0 b1 → ((c.cel a0 a1 == c.cel b0 b1) == (a0 == b0 && a1 == b1)) = true := by
    intro h h'
    rw [beq_iff_eq, Bool.eq_iff_iff]
    simp only [beq_iff_eq, Bool.and_eq_true]
    exact ⟨fun e => cel_inj c h e, fun ⟨e1, e2⟩ => by rw [e1, e2]⟩
  have n4 : 0 ≤ c.res a0 a1 → 0 ≤ c.res b0 b1 → ((c.res a0 a1 == c.res b0 b1) == (a0 == b0 && a1 == b1)) = true := by
    intro h h'
    rw [beq_iff_eq, Bool.eq_iff_iff]
    simp only [beq_iff_eq, Bool.and_eq_true]
    exact ⟨fun e => res_inj c h e, fun ⟨e1, e2⟩ => by rw [e1, e2]⟩
  unfold Cf.val at *
  generalize c.cel a0 a1 = x at *
  generalize c.cel b0 b1 = y at *
  generalize c.res a0 a1 = p at *
  generalize c.res b0 b1 = q at *
  have N1 := hid n1
  have N2 := hid n2
  have N3 := hid n3
  have N4 := hid n4
  have HX := hid hx
  have HY := hid hy
  have HP := hid hp
  have HQ := hid hq
  clear n1 n2 n3 n4 hx hy hp hq
  go_enter Try.func6, Try.ntmps6
  go_wp2_with fail
  have X : CfAt (((w.alloc (.cells #[.int .i64 c.th, .int .i64 c.sl, .int .i64 c.cp, .int .i64 c.he, .int .i64 c.ke, .int .i64 c.ev, .int .i64 c.la] 23)).alloc (.cells #[.int .i64 a0, .int .i64 a1] 35)).alloc (.cells #[.int .i64 b0, .int .i64 b1] 35)) w.heap.size c := ((Blk.new _ _ _).alloc _).alloc _
  have XA : TwoAt (((w.alloc (.cells #[.int .i64 c.th, .int .i64 c.sl, .int .i64 c.cp, .int .i64 c.he, .int .i64 c.ke, .int .i64 c.ev, .int .i64 c.la] 23)).alloc (.cells #[.int .i64 a0, .int .i64 a1] 35)).alloc (.cells #[.int .i64 b0, .int .i64 b1] 35)) (w.heap.size + 1) a0 a1 := (Blk.new' (by simp)).alloc _
  have XB : TwoAt (((w.alloc (.cells #[.int .i64 c.th, .int .i64 c.sl, .int .i64 c.cp, .int .i64 c.he, .int .i64 c.ke, .int .i64 c.ev, .int .i64 c.la] 23)).alloc (.cells #[.int .i64 a0, .int .i64 a1] 35)).alloc (.cells #[.int .i64 b0, .int .i64 b1] 35)) (w.heap.size + 2) b0 b1 := Blk.new' (by simp)
  have G0 : Gr w (((w.alloc (.cells #[.int .i64 c.th, .int .i64 c.sl, .int .i64 c.cp, .int .i64 c.he, .int .i64 c.ke, .int .i64 c.ev, .int .i64 c.la] 23)).alloc (.cells #[.int .i64 a0, .int .i64 a1] 35)).alloc (.cells #[.int .i64 b0, .int .i64 b1] 35)) := (((Gr.refl w).alloc _).alloc _).alloc _
  generalize (((w.alloc (.cells #[.int .i64 c.th, .int .i64 c.sl, .int .i64 c.cp, .int .i64 c.he, .int .i64 c.ke, .int .i64 c.ev, .int .i64 c.la] 23)).alloc (.cells #[.int .i64 a0, .int .i64 a1] 35)).alloc (.cells #[.int .i64 b0, .int .i64 b1] 35)) = W at *
  have hne : Nonempty (St (Gr W)) := ⟨⟨W, Gr.refl _⟩⟩
  obtain ⟨x0, x1, x2, x3, x4, x5, x6⟩ := X.st
  obtain ⟨y0, y1⟩ := XA.st
  obtain ⟨z0, z1⟩ := XB.st
  have AX := hid X
  have AA := hid XA
  have AB := hid XB
  clear X XA XB
  refine wp_region_inv (Gr W) (by kernel_rfl) (by kernel_rfl) (Gr.refl W).drew ?_
  repeat (go_big_quiet_step (first | (go_at_call 21; first | (with_reducible exact Calls.st_gr (HX.out _)) | (with_reducible exact Calls.st_gr (HY.out _)))))
  refine wpQuiet_nil ?_
  rintro W2 ⟨⟨_, g2⟩, rfl⟩
  clear x0 x1 x2 x3 x4 x5 x6 y0 y1 z0 z1 hne
  have hne : Nonempty (St (Gr W2)) := ⟨⟨W2, Gr.refl _⟩⟩
  obtain ⟨x0, x1, x2, x3, x4, x5, x6⟩ := (AX.out.gr g2).st
  obtain ⟨y0, y1⟩ := TwoAt.st (Blk.gr AA.out g2)
  obtain ⟨z0, z1⟩ := TwoAt.st (Blk.gr AB.out g2)
  go_wp2_with fail
  refine wp_region_inv (Gr W2) (by kernel_rfl) (by kernel_rfl) (Gr.refl W2).drew ?_
  repeat (go_big_quiet_step (first | (go_at_call 20; first | (with_reducible exact Calls.st_gr (HP.out _)) | (with_reducible exact Calls.st_gr (HQ.out _)))))
  refine wpQuiet_nil ?_
  rintro W3 ⟨⟨_, g3⟩, rfl⟩
  clear x0 x1 x2 x3 x4 x5 x6 y0 y1 z0 z1 hne
  obtain ⟨u0, u1⟩ := TwoAt.c2 (Blk.gr (Blk.gr AA.out g2) g3)
  obtain ⟨v0, v1⟩ := TwoAt.c2 (Blk.gr (Blk.gr AB.out g2) g3)
  have hq0 : ¬ q = 0 := N2.out
  have hq1 : (q == 0) = false := beq_eq_false_iff_ne.2 hq0
  have G3 : Gr w W3 := (G0.trans g2).trans g3
  have AU := hid (⟨u0, u1⟩ : W3.cell? ⟨w.heap.size + 1, 0, none⟩ = some (.int .i64 a0) ∧ W3.cell? ⟨w.heap.size + 1, 1, none⟩ = some (.int .i64 a1))
  have AV := hid (⟨v0, v1⟩ : W3.cell? ⟨w.heap.size + 2, 0, none⟩ = some (.int .i64 b0) ∧ W3.cell? ⟨w.heap.size + 2, 1, none⟩ = some (.int .i64 b1))
  have hlt1 : w.heap.size + 1 < W3.heap.size := lt_of_cell u0
  have hlt2 : w.heap.size + 2 < W3.heap.size := lt_of_cell v0
  clear u0 u1 v0 v1 AX AA AB g2 g3 G0
  have hxx : ¬ 0 ≤ x ∨ (0 ≤ x ∧ ¬ x = q ∧ ¬ x = 0 ∧ (x == q) = false ∧ (x == 0) = false) := by
    by_cases h : 0 ≤ x
    · have h1 : ¬ x = q := fun e => N1.out ⟨h, .inl e⟩
      have h2 : ¬ x = 0 := fun e => N1.out ⟨h, .inr e⟩
      exact .inr ⟨h, h1, h2, beq_eq_false_iff_ne.2 h1, beq_eq_false_iff_ne.2 h2⟩
    · exact .inl h
  have hql := eql_pair a0 a1 b0 b1
  have HQL := hid hql
  clear hql
  have L1 := hid (or_mk N3.out)
  have L2 := hid (or_mk N4.out)
  rcases hxx with h0 | ⟨h0, h1, h2, h3, h4⟩
  all_goals
    go_wp2_with fail
    refine (alive_given _).mono ?_
    rintro e W4 ⟨rfl, g4⟩
    obtain ⟨u0, u1⟩ := TwoAtC.gr AU.out g4
    obtain ⟨v0, v1⟩ := TwoAtC.gr AV.out g4
    have hql := HQL.out
    go_wp2_with fail
    all_goals
      go_ret
      refine ⟨ret_bool ?_, Gr.trans G3 g4⟩
      first
        | rfl
        | exact L1.out
        | exact L2.out
        | (rw [Bool.and_eq_true]; exact ⟨L1.out, L2.out⟩)
        | exact absurd (or_of L1.out) (by assumption)
        | (exfalso; simp_all; done)
end Go.Proofs.YthbkncklliiooaaH
