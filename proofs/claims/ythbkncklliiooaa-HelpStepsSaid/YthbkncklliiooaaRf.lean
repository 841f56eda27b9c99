/-
  The reference's words: Load and Swap.
-/
import Derived.Test.YthbkncklliiooaaRd
import Derived.Test.YthbkncklliiooaaQx26
namespace Go.Proofs.YthbkncklliiooaaH
set_option linter.unusedVariables false
set_option linter.unusedSimpArgs false
open Go.RowKit Go.Proofs.Ythbkncklliiooaa.Q

section
variable {P : Program} {md : Region.Mode} {ops : Array Oper} {C : World → Prop} {Q : Act → World → Prop}
/-- Two operations stand in front. -/
theorem anyC_two (i j : Nat) {fuel : Nat} {listed : Array Bool} {a : Act} {w : World} (hC : C w) (hr : Region.ready md ops listed = [i, j]) (hi : (ops[i]?).isSome = true) (hj : (ops[j]?).isSome = true)
    (h1 : wpList P ops (fun x a' w' => x = .normal ∧ C w' ∧ anyC P md ops C Q fuel (listed.setIfInBounds i true) a' w') (picked ops [i]) a w)
    (h2 : wpList P ops (fun x a' w' => x = .normal ∧ C w' ∧ anyC P md ops C Q fuel (listed.setIfInBounds j true) a' w') (picked ops [j]) a w) : anyC P md ops C Q (fuel + 1) listed a w := by
  have one : ∀ k, (ops[k]?).isSome = true → wpList P ops (fun x a' w' => x = .normal ∧ C w' ∧ anyC P md ops C Q fuel (listed.setIfInBounds k true) a' w') (picked ops [k]) a w → opC P ops C k (anyC P md ops C Q fuel (listed.setIfInBounds k true)) a w := by
    intro k hk h
    obtain ⟨o, h0⟩ := Option.isSome_iff_exists.1 hk
    have e : picked ops [k] = [o] := by simp [picked, h0]
    rw [e] at h
    unfold opC
    simp only [h0]
    simp only [wpList] at h
    split
    · rename_i hw
      simp only [hw, if_true] at h
      rcases h with h | ⟨_, a', w', h, _⟩
      · refine wp_exits_normal (fun a w h => ⟨h.2.1, h.2.2⟩) ?_ h
        intro x a w hx h
        exact hx h.1
      · cases h
    · rename_i hw
      simp only [hw] at h
      exact ⟨hC, h.2.2⟩
  refine ⟨fun h => (by rw [hr] at h; cases h), fun k hk => ?_⟩
  rw [hr] at hk
  rcases List.mem_cons.1 hk with rfl | hk
  · exact one _ hi h1
  · obtain rfl : k = j := by simpa using hk
    exact one _ hj h2
end

/-- The reference's words, as a value. -/
def mval (c : Cf) (s : Value) (B : Bk) : Value := .agg #[.int .i64 c.th, .int .i64 c.sl, .int .i64 c.cp, .int .i64 c.he, .int .i64 c.ke, .int .i64 c.ev, .int .i64 c.la, s, .int .i64 B.count, .int .i64 B.last.kind, .int .i64 B.last.cell, .int .u64 B.last.via, .int .u64 B.last.old, .int .u64 B.last.new, .bool B.last.done]

theorem rplain_any (h : Int) (hh : U64 h) (w : World) : Calls Try.prog 87 #[.int .u64 h] w fun e w' => e = .returned (.int .u64 (hPl h)) ∧ Gr w w' := by
  refine (stepstoneref01_Plain.calls h (hPl h) w ?_).mono fun e w' hq => ⟨hq.1, by first | exact hq.2 | exact hq.2.below⟩
  unfold stepstoneref01_Plain.f stepstoneref01_Marked.f
  rw [Option.bind_some, marked_ref hh]
  cases hm : hM h
  · simp [hPl, hm]
  · simp only [if_true]; rw [pl_wrap hh hm]
theorem rmark_any (h : Int) (hh : U64 h) (w : World) : Calls Try.prog 62 #[.int .u64 h] w fun e w' => e = .returned (.int .u64 (hMk h)) ∧ Gr w w' := by
  refine (stepstoneref01_Mark.calls h (hMk h) w ?_).mono fun e w' hq => ⟨hq.1, by first | exact hq.2 | exact hq.2.below⟩
  unfold stepstoneref01_Mark.f stepstoneref01_Marked.f
  rw [Option.bind_some, marked_ref hh]
  cases hm : hM h
  · simp only [Bool.false_eq_true, if_false]; rw [mk_wrap hh hm]
  · simp [hMk, hm]
theorem rmarked_any (h : Int) (hh : U64 h) (w : World) : Calls Try.prog 69 #[.int .u64 h] w fun e w' => e = .returned (.bool (hM h)) ∧ Gr w w' := by
  refine (stepstoneref01_Marked.calls h (hM h) w ?_).mono fun e w' hq => ⟨hq.1, by first | exact hq.2 | exact hq.2.below⟩
  unfold stepstoneref01_Marked.f
  rw [marked_ref hh]
theorem rcell_any (c : Cf) (s : Value) (B : Bk) (h f : Int) (hh : U64 h) (w : World) (hv : Words w s B.cells) (hl : B.cells.length ≤ 400) : Calls Try.prog 86 #[mval c s B, .int .u64 h, .int .i64 f] w fun e w' => e = .returned (.int .i64 (c.cel (hI h) f)) ∧ Gr w w' := by
  obtain ⟨A, cap, rfl, hc, hk⟩ := c_of_words hv (by omega)
  refine (stepstoneref05_Cell.calls c.th c.sl c.cp c.he c.ke c.ev c.la A cap B.cells B.count B.last.kind B.last.cell B.last.via B.last.old B.last.new B.last.done h f (c.cel (hI h) f) w hk hc ?_).mono fun e w' hq => ⟨hq.1, by first | exact hq.2 | exact hq.2.below⟩
  unfold stepstoneref05_Cell.f stepstoneref01_Index.f
  rw [Option.bind_some]
  have e : wrap64 (Int.tmod h 4294967296) = hI h := by
    rw [Int.tmod_eq_emod_of_nonneg hh.1]
    exact w64 (by unfold U64 at hh; omega) (by omega)
  rw [e, ref_cell_f]
  rfl

/-- What a reference's access to the words tells, and leaves. -/
def MTold (w : World) (c : Cf) (s : Value) (B : Bk) (x : Value) (e : Ending) (w' : World) : Prop := ∃ s', e = .returned (.tuple #[mval c s' B, x]) ∧ Words w' s' B.cells ∧ Gr w w' ∧ Fresh w s s'

theorem Fresh.mono {w w1 : World} {s s1 : Value} (h : Fresh w1 s s1) (g : w.heap.size ≤ w1.heap.size) : Fresh w s s1 := h.elim .inl fun k => .inr fun a n c e => Nat.le_trans g (k a n c e)
set_option maxHeartbeats 2000000 in
theorem blk_put8 {w : World} {b : Nat} {t : TypeId} {a0 a1 a2 a3 a4 a5 a6 a7 : Value} (h : Blk w b #[a0, a1, a2, a3, a4, a5, a6, a7] t) (v0 v1 v2 v3 v4 v5 v6 v7 : Value) : Blk ((((((((w.setCell ⟨b, 0, none⟩ (v0)).setCell ⟨b, 1, none⟩ (v1)).setCell ⟨b, 2, none⟩ (v2)).setCell ⟨b, 3, none⟩ (v3)).setCell ⟨b, 4, none⟩ (v4)).setCell ⟨b, 5, none⟩ (v5)).setCell ⟨b, 6, none⟩ (v6)).setCell ⟨b, 7, none⟩ (v7)) b #[v0, v1, v2, v3, v4, v5, v6, v7] t :=
  Blk.of_eq (c := (((((((((#[a0, a1, a2, a3, a4, a5, a6, a7] : Array Value).setIfInBounds 0 v0).setIfInBounds 1 v1).setIfInBounds 2 v2).setIfInBounds 3 v3).setIfInBounds 4 v4).setIfInBounds 5 v5).setIfInBounds 6 v6).setIfInBounds 7 v7)) (Blk.set (Blk.set (Blk.set (Blk.set (Blk.set (Blk.set (Blk.set (Blk.set h 0 v0) 1 v1) 2 v2) 3 v3) 4 v4) 5 v5) 6 v6) 7 v7) (by simp)
set_option maxHeartbeats 2000000 in
theorem chg_put8 (w : World) (b : Nat) (v0 v1 v2 v3 v4 v5 v6 v7 : Value) : Chg (· = b) w ((((((((w.setCell ⟨b, 0, none⟩ (v0)).setCell ⟨b, 1, none⟩ (v1)).setCell ⟨b, 2, none⟩ (v2)).setCell ⟨b, 3, none⟩ (v3)).setCell ⟨b, 4, none⟩ (v4)).setCell ⟨b, 5, none⟩ (v5)).setCell ⟨b, 6, none⟩ (v6)).setCell ⟨b, 7, none⟩ (v7)) := Chg.set1 (Chg.set1 (Chg.set1 (Chg.set1 (Chg.set1 (Chg.set1 (Chg.set1 (Chg.set1 (Chg.refl _ w) 0 v0) 1 v1) 2 v2) 3 v3) 4 v4) 5 v5) 6 v6) 7 v7
set_option maxHeartbeats 2000000 in
theorem blk_put15 {w : World} {b : Nat} {t : TypeId} {a0 a1 a2 a3 a4 a5 a6 a7 a8 a9 a10 a11 a12 a13 a14 : Value} (h : Blk w b #[a0, a1, a2, a3, a4, a5, a6, a7, a8, a9, a10, a11, a12, a13, a14] t) (v0 v1 v2 v3 v4 v5 v6 v7 v8 v9 v10 v11 v12 v13 v14 : Value) : Blk (((((((((((((((w.setCell ⟨b, 0, none⟩ (v0)).setCell ⟨b, 1, none⟩ (v1)).setCell ⟨b, 2, none⟩ (v2)).setCell ⟨b, 3, none⟩ (v3)).setCell ⟨b, 4, none⟩ (v4)).setCell ⟨b, 5, none⟩ (v5)).setCell ⟨b, 6, none⟩ (v6)).setCell ⟨b, 7, none⟩ (v7)).setCell ⟨b, 8, none⟩ (v8)).setCell ⟨b, 9, none⟩ (v9)).setCell ⟨b, 10, none⟩ (v10)).setCell ⟨b, 11, none⟩ (v11)).setCell ⟨b, 12, none⟩ (v12)).setCell ⟨b, 13, none⟩ (v13)).setCell ⟨b, 14, none⟩ (v14)) b #[v0, v1, v2, v3, v4, v5, v6, v7, v8, v9, v10, v11, v12, v13, v14] t :=
  Blk.of_eq (c := ((((((((((((((((#[a0, a1, a2, a3, a4, a5, a6, a7, a8, a9, a10, a11, a12, a13, a14] : Array Value).setIfInBounds 0 v0).setIfInBounds 1 v1).setIfInBounds 2 v2).setIfInBounds 3 v3).setIfInBounds 4 v4).setIfInBounds 5 v5).setIfInBounds 6 v6).setIfInBounds 7 v7).setIfInBounds 8 v8).setIfInBounds 9 v9).setIfInBounds 10 v10).setIfInBounds 11 v11).setIfInBounds 12 v12).setIfInBounds 13 v13).setIfInBounds 14 v14)) (Blk.set (Blk.set (Blk.set (Blk.set (Blk.set (Blk.set (Blk.set (Blk.set (Blk.set (Blk.set (Blk.set (Blk.set (Blk.set (Blk.set (Blk.set h 0 v0) 1 v1) 2 v2) 3 v3) 4 v4) 5 v5) 6 v6) 7 v7) 8 v8) 9 v9) 10 v10) 11 v11) 12 v12) 13 v13) 14 v14) (by simp)
set_option maxHeartbeats 2000000 in
theorem chg_put15 (w : World) (b : Nat) (v0 v1 v2 v3 v4 v5 v6 v7 v8 v9 v10 v11 v12 v13 v14 : Value) : Chg (· = b) w (((((((((((((((w.setCell ⟨b, 0, none⟩ (v0)).setCell ⟨b, 1, none⟩ (v1)).setCell ⟨b, 2, none⟩ (v2)).setCell ⟨b, 3, none⟩ (v3)).setCell ⟨b, 4, none⟩ (v4)).setCell ⟨b, 5, none⟩ (v5)).setCell ⟨b, 6, none⟩ (v6)).setCell ⟨b, 7, none⟩ (v7)).setCell ⟨b, 8, none⟩ (v8)).setCell ⟨b, 9, none⟩ (v9)).setCell ⟨b, 10, none⟩ (v10)).setCell ⟨b, 11, none⟩ (v11)).setCell ⟨b, 12, none⟩ (v12)).setCell ⟨b, 13, none⟩ (v13)).setCell ⟨b, 14, none⟩ (v14)) := Chg.set1 (Chg.set1 (Chg.set1 (Chg.set1 (Chg.set1 (Chg.set1 (Chg.set1 (Chg.set1 (Chg.set1 (Chg.set1 (Chg.set1 (Chg.set1 (Chg.set1 (Chg.set1 (Chg.set1 (Chg.refl _ w) 0 v0) 1 v1) 2 v2) 3 v3) 4 v4) 5 v5) 6 v6) 7 v7) 8 v8) 9 v9) 10 v10) 11 v11) 12 v12) 13 v13) 14 v14
theorem res68 (t : Array Value) (x : Nat) (W : World) (c : Cf) (s : Value) (B : Bk) (hs : ∃ p n c, s = .slice p n c) (hx : t.getD 6 undef = .pointer (some ⟨x, 0, none⟩)) (v0 : Value) (hv0 : t.getD 7 undef = v0)
    (bx : Blk W x #[.int .i64 c.th, .int .i64 c.sl, .int .i64 c.cp, .int .i64 c.he, .int .i64 c.ke, .int .i64 c.ev, .int .i64 c.la, s, .int .i64 B.count, .int .i64 B.last.kind, .int .i64 B.last.cell, .int .u64 B.last.via, .int .u64 B.last.old, .int .u64 B.last.new, .bool B.last.done] 50) :
    (results Try.f68 t).run Try.prog W = .ok (.tuple #[mval c s B, v0]) W := by
  obtain ⟨p, n, cp, rfl⟩ := hs
  have x0 : W.cell? ⟨x, 0, none⟩ = some (.int .i64 c.th) := bx.cell rfl
  have x1 : W.cell? ⟨x, 1, none⟩ = some (.int .i64 c.sl) := bx.cell rfl
  have x2 : W.cell? ⟨x, 2, none⟩ = some (.int .i64 c.cp) := bx.cell rfl
  have x3 : W.cell? ⟨x, 3, none⟩ = some (.int .i64 c.he) := bx.cell rfl
  have x4 : W.cell? ⟨x, 4, none⟩ = some (.int .i64 c.ke) := bx.cell rfl
  have x5 : W.cell? ⟨x, 5, none⟩ = some (.int .i64 c.ev) := bx.cell rfl
  have x6 : W.cell? ⟨x, 6, none⟩ = some (.int .i64 c.la) := bx.cell rfl
  have x7 : W.cell? ⟨x, 7, none⟩ = some (.slice p n cp) := bx.cell rfl
  have x8 : W.cell? ⟨x, 8, none⟩ = some (.int .i64 B.count) := bx.cell rfl
  have x9 : W.cell? ⟨x, 9, none⟩ = some (.int .i64 B.last.kind) := bx.cell rfl
  have x10 : W.cell? ⟨x, 10, none⟩ = some (.int .i64 B.last.cell) := bx.cell rfl
  have x11 : W.cell? ⟨x, 11, none⟩ = some (.int .u64 B.last.via) := bx.cell rfl
  have x12 : W.cell? ⟨x, 12, none⟩ = some (.int .u64 B.last.old) := bx.cell rfl
  have x13 : W.cell? ⟨x, 13, none⟩ = some (.int .u64 B.last.new) := bx.cell rfl
  have x14 : W.cell? ⟨x, 14, none⟩ = some (.bool B.last.done) := bx.cell rfl
  simp only [Array.getD_eq_getD_getElem?] at hx hv0
  simp [results, Try.results68, go_sem, mval, hx, hv0, x0, x1, x2, x3, x4, x5, x6, x7, x8, x9, x10, x11, x12, x13, x14]
theorem res71 (t : Array Value) (x : Nat) (W : World) (c : Cf) (s : Value) (B : Bk) (hs : ∃ p n c, s = .slice p n c) (hx : t.getD 10 undef = .pointer (some ⟨x, 0, none⟩)) (v0 : Value) (hv0 : t.getD 11 undef = v0)
    (bx : Blk W x #[.int .i64 c.th, .int .i64 c.sl, .int .i64 c.cp, .int .i64 c.he, .int .i64 c.ke, .int .i64 c.ev, .int .i64 c.la, s, .int .i64 B.count, .int .i64 B.last.kind, .int .i64 B.last.cell, .int .u64 B.last.via, .int .u64 B.last.old, .int .u64 B.last.new, .bool B.last.done] 50) :
    (results Try.f71 t).run Try.prog W = .ok (.tuple #[mval c s B, v0]) W := by
  obtain ⟨p, n, cp, rfl⟩ := hs
  have x0 : W.cell? ⟨x, 0, none⟩ = some (.int .i64 c.th) := bx.cell rfl
  have x1 : W.cell? ⟨x, 1, none⟩ = some (.int .i64 c.sl) := bx.cell rfl
  have x2 : W.cell? ⟨x, 2, none⟩ = some (.int .i64 c.cp) := bx.cell rfl
  have x3 : W.cell? ⟨x, 3, none⟩ = some (.int .i64 c.he) := bx.cell rfl
  have x4 : W.cell? ⟨x, 4, none⟩ = some (.int .i64 c.ke) := bx.cell rfl
  have x5 : W.cell? ⟨x, 5, none⟩ = some (.int .i64 c.ev) := bx.cell rfl
  have x6 : W.cell? ⟨x, 6, none⟩ = some (.int .i64 c.la) := bx.cell rfl
  have x7 : W.cell? ⟨x, 7, none⟩ = some (.slice p n cp) := bx.cell rfl
  have x8 : W.cell? ⟨x, 8, none⟩ = some (.int .i64 B.count) := bx.cell rfl
  have x9 : W.cell? ⟨x, 9, none⟩ = some (.int .i64 B.last.kind) := bx.cell rfl
  have x10 : W.cell? ⟨x, 10, none⟩ = some (.int .i64 B.last.cell) := bx.cell rfl
  have x11 : W.cell? ⟨x, 11, none⟩ = some (.int .u64 B.last.via) := bx.cell rfl
  have x12 : W.cell? ⟨x, 12, none⟩ = some (.int .u64 B.last.old) := bx.cell rfl
  have x13 : W.cell? ⟨x, 13, none⟩ = some (.int .u64 B.last.new) := bx.cell rfl
  have x14 : W.cell? ⟨x, 14, none⟩ = some (.bool B.last.done) := bx.cell rfl
  simp only [Array.getD_eq_getD_getElem?] at hx hv0
  simp [results, Try.results71, go_sem, mval, hx, hv0, x0, x1, x2, x3, x4, x5, x6, x7, x8, x9, x10, x11, x12, x13, x14]
set_option maxRecDepth 100000 in
set_option maxHeartbeats 2000000 in
theorem rmload_any (c : Cf) (s : Value) (B : Bk) (h f : Int) (hh : U64 h) (w : World) (hv : Words w s B.cells) (hne : B.cells ≠ []) (hl : B.cells.length ≤ 400) :
    Calls Try.prog 68 #[mval c s B, .int .u64 h, .int .i64 f] w (MTold w c s (B.load (c.cel (hI h) f) (hPl h)) (.int .u64 ((B.load (c.cel (hI h) f) (hPl h)).last.old))) := by
  have hce := hid (fun w hv => rcell_any c s B h f hh w hv hl)
  have hpl := hid (rplain_any h hh)
  have hdo := hid (fun w hv => rload_any s B (c.cel (hI h) f) (hPl h) w hv hl)
  have hlen : (B.load (c.cel (hI h) f) (hPl h)).cells.length = B.cells.length := by unfold Bk.load; split <;> simp [Bk.done, Bk.none]
  generalize B.load (c.cel (hI h) f) (hPl h) = B1 at *
  generalize c.cel (hI h) f = x at *
  generalize hPl h = y at *
  obtain ⟨A, cap, rfl⟩ := hv.slice
  have HV := hid hv
  have HL := hid hlen
  have HN := hid hne
  unfold mval at hce
  unfold rval at hdo
  unfold mval
  clear hv hlen hne
  go_enter Try.func68, Try.ntmps68
  go_wp2_with fail
  have G0 := hid (((Gr.refl w).alloc (.cells #[.int .i64 c.th, .int .i64 c.sl, .int .i64 c.cp, .int .i64 c.he, .int .i64 c.ke, .int .i64 c.ev, .int .i64 c.la, .slice A B.cells.length cap, .int .i64 B.count, .int .i64 B.last.kind, .int .i64 B.last.cell, .int .u64 B.last.via, .int .u64 B.last.old, .int .u64 B.last.new, .bool B.last.done] 50)).alloc (.cells #[.int .i64 0, .int .i64 0, .int .i64 0, .int .i64 0, .int .i64 0, .int .i64 0, .int .i64 0, .slice none 0 0, .int .i64 0, .int .i64 0, .int .i64 0, .int .u64 0, .int .u64 0, .int .u64 0, .bool false] 50))
  have AX : Hid (Blk ((w.alloc (.cells #[.int .i64 c.th, .int .i64 c.sl, .int .i64 c.cp, .int .i64 c.he, .int .i64 c.ke, .int .i64 c.ev, .int .i64 c.la, .slice A B.cells.length cap, .int .i64 B.count, .int .i64 B.last.kind, .int .i64 B.last.cell, .int .u64 B.last.via, .int .u64 B.last.old, .int .u64 B.last.new, .bool B.last.done] 50)).alloc (.cells #[.int .i64 0, .int .i64 0, .int .i64 0, .int .i64 0, .int .i64 0, .int .i64 0, .int .i64 0, .slice none 0 0, .int .i64 0, .int .i64 0, .int .i64 0, .int .u64 0, .int .u64 0, .int .u64 0, .bool false] 50)) w.heap.size #[.int .i64 c.th, .int .i64 c.sl, .int .i64 c.cp, .int .i64 c.he, .int .i64 c.ke, .int .i64 c.ev, .int .i64 c.la, .slice A B.cells.length cap, .int .i64 B.count, .int .i64 B.last.kind, .int .i64 B.last.cell, .int .u64 B.last.via, .int .u64 B.last.old, .int .u64 B.last.new, .bool B.last.done] 50) := hid ((Blk.new w #[.int .i64 c.th, .int .i64 c.sl, .int .i64 c.cp, .int .i64 c.he, .int .i64 c.ke, .int .i64 c.ev, .int .i64 c.la, .slice A B.cells.length cap, .int .i64 B.count, .int .i64 B.last.kind, .int .i64 B.last.cell, .int .u64 B.last.via, .int .u64 B.last.old, .int .u64 B.last.new, .bool B.last.done] 50).alloc _)
  have AR : Hid (Blk ((w.alloc (.cells #[.int .i64 c.th, .int .i64 c.sl, .int .i64 c.cp, .int .i64 c.he, .int .i64 c.ke, .int .i64 c.ev, .int .i64 c.la, .slice A B.cells.length cap, .int .i64 B.count, .int .i64 B.last.kind, .int .i64 B.last.cell, .int .u64 B.last.via, .int .u64 B.last.old, .int .u64 B.last.new, .bool B.last.done] 50)).alloc (.cells #[.int .i64 0, .int .i64 0, .int .i64 0, .int .i64 0, .int .i64 0, .int .i64 0, .int .i64 0, .slice none 0 0, .int .i64 0, .int .i64 0, .int .i64 0, .int .u64 0, .int .u64 0, .int .u64 0, .bool false] 50)) (w.heap.size + 1) #[.int .i64 0, .int .i64 0, .int .i64 0, .int .i64 0, .int .i64 0, .int .i64 0, .int .i64 0, .slice none 0 0, .int .i64 0, .int .i64 0, .int .i64 0, .int .u64 0, .int .u64 0, .int .u64 0, .bool false] 50) := hid (Blk.new' (by simp))
  generalize ((w.alloc (.cells #[.int .i64 c.th, .int .i64 c.sl, .int .i64 c.cp, .int .i64 c.he, .int .i64 c.ke, .int .i64 c.ev, .int .i64 c.la, .slice A B.cells.length cap, .int .i64 B.count, .int .i64 B.last.kind, .int .i64 B.last.cell, .int .u64 B.last.via, .int .u64 B.last.old, .int .u64 B.last.new, .bool B.last.done] 50)).alloc (.cells #[.int .i64 0, .int .i64 0, .int .i64 0, .int .i64 0, .int .i64 0, .int .i64 0, .int .i64 0, .slice none 0 0, .int .i64 0, .int .i64 0, .int .i64 0, .int .u64 0, .int .u64 0, .int .u64 0, .bool false] 50)) = w0 at *
  generalize hr : w.heap.size + 1 = r at *
  have RL := hid AR.out.lt
  have RX : Hid (w.heap.size ≤ r ∧ w.heap.size ≠ r ∧ w.heap.size < w0.heap.size) := hid ⟨by omega, by omega, AX.out.lt⟩
  clear hr
  refine wp_region_anyC (n := 15) (Gr w0) (by kernel_rfl) rfl ?_
  have CD := hid ((Gr.refl w0).drew)
  generalize w0.drew = wd at *
  refine anyC_quiet (a1 := ?a1) (by kernel_rfl) 9 [0, 1, 2, 3, 4, 6] _ _ _ (by kernel_rfl) (by kernel_rfl) CD.out ?_ ?_
  rotate_left
  · intro w' g'
    have hne : Nonempty (St (· = w')) := ⟨⟨w', rfl⟩⟩
    have X3 := AX.out.gr g'
    obtain ⟨y0, y1, y2, y3, y4, y5, y6, y7, y8, y9, y10, y11, y12, y13, y14⟩ := st15 (X3)
    clear X3
    clear g'
    conv => arg 5; simp only [picked, List.filterMap_cons, List.filterMap_nil, List.getElem?_toArray, List.getElem?_cons_zero, List.getElem?_cons_succ]
    show wpQuiet _ _ _ _ [_, _, _, _, _, _] _
    repeat (go_big_quiet_step (fail))
    refine wpQuiet_nil ?_
    rfl
  refine anyC_two 5 12 CD.out (by kernel_rfl) (by kernel_rfl) (by kernel_rfl) ?_ ?_
  · conv => arg 4; simp only [picked, List.filterMap_cons, List.filterMap_nil, List.getElem?_toArray, List.getElem?_cons_zero, List.getElem?_cons_succ]
    show wpList _ _ _ [_] _ _
    go_wp2_with fail
    refine (hce.out _ (HV.out.gr (Gr.trans G0.out CD.out))).mono ?_
    rintro e w2 ⟨rfl, gw2⟩
    have C3 := hid (Gr.trans CD.out gw2)
    clear gw2
    go_wp2_with fail
    refine ⟨C3.out, ?_⟩
    refine anyC_two 7 12 C3.out (by kernel_rfl) (by kernel_rfl) (by kernel_rfl) ?_ ?_
    · conv => arg 4; simp only [picked, List.filterMap_cons, List.filterMap_nil, List.getElem?_toArray, List.getElem?_cons_zero, List.getElem?_cons_succ]
      show wpList _ _ _ [_] _ _
      go_wp2_with fail
      refine (hpl.out _).mono ?_
      rintro e w4 ⟨rfl, gw4⟩
      have C5 := hid (Gr.trans C3.out gw4)
      clear gw4
      go_wp2_with fail
      refine ⟨C5.out, ?_⟩
      refine anyC_two 8 12 C5.out (by kernel_rfl) (by kernel_rfl) (by kernel_rfl) ?_ ?_
      · conv => arg 4; simp only [picked, List.filterMap_cons, List.filterMap_nil, List.getElem?_toArray, List.getElem?_cons_zero, List.getElem?_cons_succ]
        show wpList _ _ _ [_] _ _
        go_wp2_with fail
        refine (hdo.out _ (HV.out.gr (Gr.trans G0.out C5.out))).mono ?_
        rintro e w6 ⟨s1, rfl, hw1, gw6, hf1⟩
        have C7 := hid (Gr.trans C5.out gw6)
        obtain ⟨A1, cap1, rfl⟩ := hw1.slice
        have HW := hid hw1
        have NR := hid (hf1.apart (w1 := w) (w0 := w) HV.out r RX.out.1 (by have := C5.out.size; have := RL.out; have := RX.out; first | omega | (simp; omega)) HN.out)
        have HF := hid (Fresh.mono hf1 (Gr.trans G0.out C5.out).size)
        clear hw1 hf1
        unfold rval
        clear gw6
        go_wp2_with fail
        refine ⟨C7.out, ?_⟩
        refine anyC_quiet (a1 := ?a8) (by kernel_rfl) 3 [9, 10, 11] _ _ _ (by kernel_rfl) (by kernel_rfl) C7.out ?_ ?_
        rotate_left
        · intro w' g'
          have hne : Nonempty (St (· = w')) := ⟨⟨w', rfl⟩⟩
          clear g'
          conv => arg 5; simp only [picked, List.filterMap_cons, List.filterMap_nil, List.getElem?_toArray, List.getElem?_cons_zero, List.getElem?_cons_succ]
          show wpQuiet _ _ _ _ [_, _, _] _
          repeat (go_big_quiet_step (fail))
          refine wpQuiet_nil ?_
          rfl
        refine anyC_alone 12 C7.out (by kernel_rfl) (by kernel_rfl) ?_
        conv => arg 4; simp only [picked, List.filterMap_cons, List.filterMap_nil, List.getElem?_toArray, List.getElem?_cons_zero, List.getElem?_cons_succ]
        show wpList _ _ _ [_] _ _
        go_wp2_with fail
        have C10 : Hid (Gr w0 (w6.alloc (.cells #[.slice none 0 0, .int .i64 0, .int .i64 0, .int .i64 0, .int .u64 0, .int .u64 0, .int .u64 0, .bool false] 48))) := hid ((C7.out).alloc _)
        have B11 : Hid (Blk (w6.alloc (.cells #[.slice none 0 0, .int .i64 0, .int .i64 0, .int .i64 0, .int .u64 0, .int .u64 0, .int .u64 0, .bool false] 48)) w6.heap.size #[.slice none 0 0, .int .i64 0, .int .i64 0, .int .i64 0, .int .u64 0, .int .u64 0, .int .u64 0, .bool false] 48) := hid (Blk.new' (by simp))
        have BG : Hid (w0.heap.size ≤ w6.heap.size) := hid ((C7.out).size)
        refine ⟨C10.out, ?_⟩
        have GC : Hid (Gr w6 (w6.alloc (.cells #[.slice none 0 0, .int .i64 0, .int .i64 0, .int .i64 0, .int .u64 0, .int .u64 0, .int .u64 0, .bool false] 48))) := hid ((Gr.refl _).alloc _)
        generalize (w6.alloc (.cells #[.slice none 0 0, .int .i64 0, .int .i64 0, .int .i64 0, .int .u64 0, .int .u64 0, .int .u64 0, .bool false] 48)) = w9 at *
        generalize hbe : w6.heap.size = b12 at *
        have BE := hid hbe
        clear hbe
        have hbl := B11.out.lt
        have hbf := fun i => Blk.free B11.out i
        obtain ⟨z0, z1, z2, z3, z4, z5, z6, z7⟩ := cells8 (B11.out)
        refine anyC_alone 13 C10.out (by kernel_rfl) (by kernel_rfl) ?_
        conv => arg 4; simp only [picked, List.filterMap_cons, List.filterMap_nil, List.getElem?_toArray, List.getElem?_cons_zero, List.getElem?_cons_succ]
        show wpList _ _ _ [_] _ _
        go_wp2_with fail
        have B15 := hid (blk_put8 B11.out (.slice A1 B1.cells.length cap1) (.int .i64 B1.count) (.int .i64 B1.last.kind) (.int .i64 B1.last.cell) (.int .u64 B1.last.via) (.int .u64 B1.last.old) (.int .u64 B1.last.new) (.bool B1.last.done))
        have HC := hid (chg_put8 w9 b12 (.slice A1 B1.cells.length cap1) (.int .i64 B1.count) (.int .i64 B1.last.kind) (.int .i64 B1.last.cell) (.int .u64 B1.last.via) (.int .u64 B1.last.old) (.int .u64 B1.last.new) (.bool B1.last.done))
        have C14 : Hid (Gr w0 ((((((((w9.setCell ⟨b12, 0, none⟩ (.slice A1 B1.cells.length cap1)).setCell ⟨b12, 1, none⟩ (.int .i64 B1.count)).setCell ⟨b12, 2, none⟩ (.int .i64 B1.last.kind)).setCell ⟨b12, 3, none⟩ (.int .i64 B1.last.cell)).setCell ⟨b12, 4, none⟩ (.int .u64 B1.last.via)).setCell ⟨b12, 5, none⟩ (.int .u64 B1.last.old)).setCell ⟨b12, 6, none⟩ (.int .u64 B1.last.new)).setCell ⟨b12, 7, none⟩ (.bool B1.last.done))) := hid ((C10.out).step HC.out (by rintro i rfl; exact BG.out))
        have HW2 := hid (HW.out.keep (Chg.trans GC.out.chg HC.out) (fun a n c e h => by have := BE.out; omega))
        clear z0 z1 z2 z3 z4 z5 z6 z7 hbl hbf
        generalize ((((((((w9.setCell ⟨b12, 0, none⟩ (.slice A1 B1.cells.length cap1)).setCell ⟨b12, 1, none⟩ (.int .i64 B1.count)).setCell ⟨b12, 2, none⟩ (.int .i64 B1.last.kind)).setCell ⟨b12, 3, none⟩ (.int .i64 B1.last.cell)).setCell ⟨b12, 4, none⟩ (.int .u64 B1.last.via)).setCell ⟨b12, 5, none⟩ (.int .u64 B1.last.old)).setCell ⟨b12, 6, none⟩ (.int .u64 B1.last.new)).setCell ⟨b12, 7, none⟩ (.bool B1.last.done)) = w13 at *
        refine ⟨C14.out, ?_⟩
        refine anyC_quiet (a1 := ?a16) (by kernel_rfl) 0 [14] _ _ _ (by kernel_rfl) (by kernel_rfl) C14.out ?_ ?_
        rotate_left
        · intro w' g'
          have hne : Nonempty (St (· = w')) := ⟨⟨w', rfl⟩⟩
          clear g'
          conv => arg 5; simp only [picked, List.filterMap_cons, List.filterMap_nil, List.getElem?_toArray, List.getElem?_cons_zero, List.getElem?_cons_succ]
          show wpQuiet _ _ _ _ [_] _
          repeat (go_big_quiet_step (fail))
          refine wpQuiet_nil ?_
          rfl
        refine ⟨by kernel_rfl, ?_⟩
        have XX := hid (AX.out.gr C14.out)
        have RR := hid (AR.out.gr C14.out)
        obtain ⟨x0, x1, x2, x3, x4, x5, x6, -⟩ := cells15 (XX.out)
        obtain ⟨y0, y1, y2, y3, y4, y5, y6, y7⟩ := cells8 (B15.out)
        obtain ⟨q0, q1, q2, q3, q4, q5, q6, q7, q8, q9, q10, q11, q12, q13, q14⟩ := cells15 (RR.out)
        have rl := RR.out.lt
        have rf := fun i => Blk.free RR.out i
        go_wp2_with fail
        refine bodyPost_ret (v := .tuple #[mval c (.slice A1 B1.cells.length cap1) B1, .int .u64 B1.last.old]) (res68 _ r _ c (.slice A1 B1.cells.length cap1) B1 ⟨_, _, _, rfl⟩ rfl _ rfl ?_) rfl ?_
        · exact blk_put15 RR.out (.int .i64 c.th) (.int .i64 c.sl) (.int .i64 c.cp) (.int .i64 c.he) (.int .i64 c.ke) (.int .i64 c.ev) (.int .i64 c.la) (.slice A1 B1.cells.length cap1) (.int .i64 B1.count) (.int .i64 B1.last.kind) (.int .i64 B1.last.cell) (.int .u64 B1.last.via) (.int .u64 B1.last.old) (.int .u64 B1.last.new) (.bool B1.last.done)
        · exact ⟨_, rfl, HW2.out.keep (chg_put15 _ _ (.int .i64 c.th) (.int .i64 c.sl) (.int .i64 c.cp) (.int .i64 c.he) (.int .i64 c.ke) (.int .i64 c.ev) (.int .i64 c.la) (.slice A1 B1.cells.length cap1) (.int .i64 B1.count) (.int .i64 B1.last.kind) (.int .i64 B1.last.cell) (.int .u64 B1.last.via) (.int .u64 B1.last.old) (.int .u64 B1.last.new) (.bool B1.last.done)) (fun a n c e _ => NR.out a n c e), Gr.step (Gr.trans G0.out C14.out) (chg_put15 _ _ (.int .i64 c.th) (.int .i64 c.sl) (.int .i64 c.cp) (.int .i64 c.he) (.int .i64 c.ke) (.int .i64 c.ev) (.int .i64 c.la) (.slice A1 B1.cells.length cap1) (.int .i64 B1.count) (.int .i64 B1.last.kind) (.int .i64 B1.last.cell) (.int .u64 B1.last.via) (.int .u64 B1.last.old) (.int .u64 B1.last.new) (.bool B1.last.done)) (by rintro i rfl; exact RX.out.1), HF.out⟩
      · conv => arg 4; simp only [picked, List.filterMap_cons, List.filterMap_nil, List.getElem?_toArray, List.getElem?_cons_zero, List.getElem?_cons_succ]
        show wpList _ _ _ [_] _ _
        go_wp2_with fail
        have C18 : Hid (Gr w0 (w4.alloc (.cells #[.slice none 0 0, .int .i64 0, .int .i64 0, .int .i64 0, .int .u64 0, .int .u64 0, .int .u64 0, .bool false] 48))) := hid ((C5.out).alloc _)
        have B19 : Hid (Blk (w4.alloc (.cells #[.slice none 0 0, .int .i64 0, .int .i64 0, .int .i64 0, .int .u64 0, .int .u64 0, .int .u64 0, .bool false] 48)) w4.heap.size #[.slice none 0 0, .int .i64 0, .int .i64 0, .int .i64 0, .int .u64 0, .int .u64 0, .int .u64 0, .bool false] 48) := hid (Blk.new' (by simp))
        have BG : Hid (w0.heap.size ≤ w4.heap.size) := hid ((C5.out).size)
        refine ⟨C18.out, ?_⟩
        generalize (w4.alloc (.cells #[.slice none 0 0, .int .i64 0, .int .i64 0, .int .i64 0, .int .u64 0, .int .u64 0, .int .u64 0, .bool false] 48)) = w17 at *
        generalize hbe : w4.heap.size = b20 at *
        have BE := hid hbe
        clear hbe
        refine anyC_alone 8 C18.out (by kernel_rfl) (by kernel_rfl) ?_
        conv => arg 4; simp only [picked, List.filterMap_cons, List.filterMap_nil, List.getElem?_toArray, List.getElem?_cons_zero, List.getElem?_cons_succ]
        show wpList _ _ _ [_] _ _
        go_wp2_with fail
        refine (hdo.out _ (HV.out.gr (Gr.trans G0.out C18.out))).mono ?_
        rintro e w21 ⟨s1, rfl, hw1, gw21, hf1⟩
        have C22 := hid (Gr.trans C18.out gw21)
        have B23 := hid (Blk.gr B19.out gw21)
        obtain ⟨A1, cap1, rfl⟩ := hw1.slice
        have HW := hid hw1
        have NR := hid (hf1.apart (w1 := w) (w0 := w) HV.out r RX.out.1 (by have := C18.out.size; have := RL.out; have := RX.out; first | omega | (simp; omega)) HN.out)
        have NB := hid (hf1.apart (w1 := w) (w0 := w) HV.out b20 (by have := BG.out; have := RX.out; omega) (by have := B19.out.lt; first | omega | (simp; omega)) HN.out)
        have HF := hid (Fresh.mono hf1 (Gr.trans G0.out C18.out).size)
        clear hw1 hf1
        unfold rval
        clear gw21
        go_wp2_with fail
        refine ⟨C22.out, ?_⟩
        refine anyC_quiet (a1 := ?a24) (by kernel_rfl) 2 [9, 10, 11] _ _ _ (by kernel_rfl) (by kernel_rfl) C22.out ?_ ?_
        rotate_left
        · intro w' g'
          have hne : Nonempty (St (· = w')) := ⟨⟨w', rfl⟩⟩
          clear g'
          conv => arg 5; simp only [picked, List.filterMap_cons, List.filterMap_nil, List.getElem?_toArray, List.getElem?_cons_zero, List.getElem?_cons_succ]
          show wpQuiet _ _ _ _ [_, _, _] _
          repeat (go_big_quiet_step (fail))
          refine wpQuiet_nil ?_
          rfl
        have hbl := B23.out.lt
        have hbf := fun i => Blk.free B23.out i
        obtain ⟨z0, z1, z2, z3, z4, z5, z6, z7⟩ := cells8 (B23.out)
        refine anyC_alone 13 C22.out (by kernel_rfl) (by kernel_rfl) ?_
        conv => arg 4; simp only [picked, List.filterMap_cons, List.filterMap_nil, List.getElem?_toArray, List.getElem?_cons_zero, List.getElem?_cons_succ]
        show wpList _ _ _ [_] _ _
        go_wp2_with fail
        have B27 := hid (blk_put8 B23.out (.slice A1 B1.cells.length cap1) (.int .i64 B1.count) (.int .i64 B1.last.kind) (.int .i64 B1.last.cell) (.int .u64 B1.last.via) (.int .u64 B1.last.old) (.int .u64 B1.last.new) (.bool B1.last.done))
        have HC := hid (chg_put8 w21 b20 (.slice A1 B1.cells.length cap1) (.int .i64 B1.count) (.int .i64 B1.last.kind) (.int .i64 B1.last.cell) (.int .u64 B1.last.via) (.int .u64 B1.last.old) (.int .u64 B1.last.new) (.bool B1.last.done))
        have C26 : Hid (Gr w0 ((((((((w21.setCell ⟨b20, 0, none⟩ (.slice A1 B1.cells.length cap1)).setCell ⟨b20, 1, none⟩ (.int .i64 B1.count)).setCell ⟨b20, 2, none⟩ (.int .i64 B1.last.kind)).setCell ⟨b20, 3, none⟩ (.int .i64 B1.last.cell)).setCell ⟨b20, 4, none⟩ (.int .u64 B1.last.via)).setCell ⟨b20, 5, none⟩ (.int .u64 B1.last.old)).setCell ⟨b20, 6, none⟩ (.int .u64 B1.last.new)).setCell ⟨b20, 7, none⟩ (.bool B1.last.done))) := hid ((C22.out).step HC.out (by rintro i rfl; exact BG.out))
        have HW2 := hid (HW.out.keep HC.out (fun a n c e _ => NB.out a n c e))
        clear z0 z1 z2 z3 z4 z5 z6 z7 hbl hbf
        generalize ((((((((w21.setCell ⟨b20, 0, none⟩ (.slice A1 B1.cells.length cap1)).setCell ⟨b20, 1, none⟩ (.int .i64 B1.count)).setCell ⟨b20, 2, none⟩ (.int .i64 B1.last.kind)).setCell ⟨b20, 3, none⟩ (.int .i64 B1.last.cell)).setCell ⟨b20, 4, none⟩ (.int .u64 B1.last.via)).setCell ⟨b20, 5, none⟩ (.int .u64 B1.last.old)).setCell ⟨b20, 6, none⟩ (.int .u64 B1.last.new)).setCell ⟨b20, 7, none⟩ (.bool B1.last.done)) = w25 at *
        refine ⟨C26.out, ?_⟩
        refine anyC_quiet (a1 := ?a28) (by kernel_rfl) 0 [14] _ _ _ (by kernel_rfl) (by kernel_rfl) C26.out ?_ ?_
        rotate_left
        · intro w' g'
          have hne : Nonempty (St (· = w')) := ⟨⟨w', rfl⟩⟩
          clear g'
          conv => arg 5; simp only [picked, List.filterMap_cons, List.filterMap_nil, List.getElem?_toArray, List.getElem?_cons_zero, List.getElem?_cons_succ]
          show wpQuiet _ _ _ _ [_] _
          repeat (go_big_quiet_step (fail))
          refine wpQuiet_nil ?_
          rfl
        refine ⟨by kernel_rfl, ?_⟩
        have XX := hid (AX.out.gr C26.out)
        have RR := hid (AR.out.gr C26.out)
        obtain ⟨x0, x1, x2, x3, x4, x5, x6, -⟩ := cells15 (XX.out)
        obtain ⟨y0, y1, y2, y3, y4, y5, y6, y7⟩ := cells8 (B27.out)
        obtain ⟨q0, q1, q2, q3, q4, q5, q6, q7, q8, q9, q10, q11, q12, q13, q14⟩ := cells15 (RR.out)
        have rl := RR.out.lt
        have rf := fun i => Blk.free RR.out i
        go_wp2_with fail
        refine bodyPost_ret (v := .tuple #[mval c (.slice A1 B1.cells.length cap1) B1, .int .u64 B1.last.old]) (res68 _ r _ c (.slice A1 B1.cells.length cap1) B1 ⟨_, _, _, rfl⟩ rfl _ rfl ?_) rfl ?_
        · exact blk_put15 RR.out (.int .i64 c.th) (.int .i64 c.sl) (.int .i64 c.cp) (.int .i64 c.he) (.int .i64 c.ke) (.int .i64 c.ev) (.int .i64 c.la) (.slice A1 B1.cells.length cap1) (.int .i64 B1.count) (.int .i64 B1.last.kind) (.int .i64 B1.last.cell) (.int .u64 B1.last.via) (.int .u64 B1.last.old) (.int .u64 B1.last.new) (.bool B1.last.done)
        · exact ⟨_, rfl, HW2.out.keep (chg_put15 _ _ (.int .i64 c.th) (.int .i64 c.sl) (.int .i64 c.cp) (.int .i64 c.he) (.int .i64 c.ke) (.int .i64 c.ev) (.int .i64 c.la) (.slice A1 B1.cells.length cap1) (.int .i64 B1.count) (.int .i64 B1.last.kind) (.int .i64 B1.last.cell) (.int .u64 B1.last.via) (.int .u64 B1.last.old) (.int .u64 B1.last.new) (.bool B1.last.done)) (fun a n c e _ => NR.out a n c e), Gr.step (Gr.trans G0.out C26.out) (chg_put15 _ _ (.int .i64 c.th) (.int .i64 c.sl) (.int .i64 c.cp) (.int .i64 c.he) (.int .i64 c.ke) (.int .i64 c.ev) (.int .i64 c.la) (.slice A1 B1.cells.length cap1) (.int .i64 B1.count) (.int .i64 B1.last.kind) (.int .i64 B1.last.cell) (.int .u64 B1.last.via) (.int .u64 B1.last.old) (.int .u64 B1.last.new) (.bool B1.last.done)) (by rintro i rfl; exact RX.out.1), HF.out⟩
    · conv => arg 4; simp only [picked, List.filterMap_cons, List.filterMap_nil, List.getElem?_toArray, List.getElem?_cons_zero, List.getElem?_cons_succ]
      show wpList _ _ _ [_] _ _
      go_wp2_with fail
      have C30 : Hid (Gr w0 (w2.alloc (.cells #[.slice none 0 0, .int .i64 0, .int .i64 0, .int .i64 0, .int .u64 0, .int .u64 0, .int .u64 0, .bool false] 48))) := hid ((C3.out).alloc _)
      have B31 : Hid (Blk (w2.alloc (.cells #[.slice none 0 0, .int .i64 0, .int .i64 0, .int .i64 0, .int .u64 0, .int .u64 0, .int .u64 0, .bool false] 48)) w2.heap.size #[.slice none 0 0, .int .i64 0, .int .i64 0, .int .i64 0, .int .u64 0, .int .u64 0, .int .u64 0, .bool false] 48) := hid (Blk.new' (by simp))
      have BG : Hid (w0.heap.size ≤ w2.heap.size) := hid ((C3.out).size)
      refine ⟨C30.out, ?_⟩
      generalize (w2.alloc (.cells #[.slice none 0 0, .int .i64 0, .int .i64 0, .int .i64 0, .int .u64 0, .int .u64 0, .int .u64 0, .bool false] 48)) = w29 at *
      generalize hbe : w2.heap.size = b32 at *
      have BE := hid hbe
      clear hbe
      refine anyC_alone 7 C30.out (by kernel_rfl) (by kernel_rfl) ?_
      conv => arg 4; simp only [picked, List.filterMap_cons, List.filterMap_nil, List.getElem?_toArray, List.getElem?_cons_zero, List.getElem?_cons_succ]
      show wpList _ _ _ [_] _ _
      go_wp2_with fail
      refine (hpl.out _).mono ?_
      rintro e w33 ⟨rfl, gw33⟩
      have C34 := hid (Gr.trans C30.out gw33)
      have B35 := hid (Blk.gr B31.out gw33)
      clear gw33
      go_wp2_with fail
      refine ⟨C34.out, ?_⟩
      refine anyC_alone 8 C34.out (by kernel_rfl) (by kernel_rfl) ?_
      conv => arg 4; simp only [picked, List.filterMap_cons, List.filterMap_nil, List.getElem?_toArray, List.getElem?_cons_zero, List.getElem?_cons_succ]
      show wpList _ _ _ [_] _ _
      go_wp2_with fail
      refine (hdo.out _ (HV.out.gr (Gr.trans G0.out C34.out))).mono ?_
      rintro e w36 ⟨s1, rfl, hw1, gw36, hf1⟩
      have C37 := hid (Gr.trans C34.out gw36)
      have B38 := hid (Blk.gr B35.out gw36)
      obtain ⟨A1, cap1, rfl⟩ := hw1.slice
      have HW := hid hw1
      have NR := hid (hf1.apart (w1 := w) (w0 := w) HV.out r RX.out.1 (by have := C34.out.size; have := RL.out; have := RX.out; first | omega | (simp; omega)) HN.out)
      have NB := hid (hf1.apart (w1 := w) (w0 := w) HV.out b32 (by have := BG.out; have := RX.out; omega) (by have := B35.out.lt; first | omega | (simp; omega)) HN.out)
      have HF := hid (Fresh.mono hf1 (Gr.trans G0.out C34.out).size)
      clear hw1 hf1
      unfold rval
      clear gw36
      go_wp2_with fail
      refine ⟨C37.out, ?_⟩
      refine anyC_quiet (a1 := ?a39) (by kernel_rfl) 2 [9, 10, 11] _ _ _ (by kernel_rfl) (by kernel_rfl) C37.out ?_ ?_
      rotate_left
      · intro w' g'
        have hne : Nonempty (St (· = w')) := ⟨⟨w', rfl⟩⟩
        clear g'
        conv => arg 5; simp only [picked, List.filterMap_cons, List.filterMap_nil, List.getElem?_toArray, List.getElem?_cons_zero, List.getElem?_cons_succ]
        show wpQuiet _ _ _ _ [_, _, _] _
        repeat (go_big_quiet_step (fail))
        refine wpQuiet_nil ?_
        rfl
      have hbl := B38.out.lt
      have hbf := fun i => Blk.free B38.out i
      obtain ⟨z0, z1, z2, z3, z4, z5, z6, z7⟩ := cells8 (B38.out)
      refine anyC_alone 13 C37.out (by kernel_rfl) (by kernel_rfl) ?_
      conv => arg 4; simp only [picked, List.filterMap_cons, List.filterMap_nil, List.getElem?_toArray, List.getElem?_cons_zero, List.getElem?_cons_succ]
      show wpList _ _ _ [_] _ _
      go_wp2_with fail
      have B42 := hid (blk_put8 B38.out (.slice A1 B1.cells.length cap1) (.int .i64 B1.count) (.int .i64 B1.last.kind) (.int .i64 B1.last.cell) (.int .u64 B1.last.via) (.int .u64 B1.last.old) (.int .u64 B1.last.new) (.bool B1.last.done))
      have HC := hid (chg_put8 w36 b32 (.slice A1 B1.cells.length cap1) (.int .i64 B1.count) (.int .i64 B1.last.kind) (.int .i64 B1.last.cell) (.int .u64 B1.last.via) (.int .u64 B1.last.old) (.int .u64 B1.last.new) (.bool B1.last.done))
      have C41 : Hid (Gr w0 ((((((((w36.setCell ⟨b32, 0, none⟩ (.slice A1 B1.cells.length cap1)).setCell ⟨b32, 1, none⟩ (.int .i64 B1.count)).setCell ⟨b32, 2, none⟩ (.int .i64 B1.last.kind)).setCell ⟨b32, 3, none⟩ (.int .i64 B1.last.cell)).setCell ⟨b32, 4, none⟩ (.int .u64 B1.last.via)).setCell ⟨b32, 5, none⟩ (.int .u64 B1.last.old)).setCell ⟨b32, 6, none⟩ (.int .u64 B1.last.new)).setCell ⟨b32, 7, none⟩ (.bool B1.last.done))) := hid ((C37.out).step HC.out (by rintro i rfl; exact BG.out))
      have HW2 := hid (HW.out.keep HC.out (fun a n c e _ => NB.out a n c e))
      clear z0 z1 z2 z3 z4 z5 z6 z7 hbl hbf
      generalize ((((((((w36.setCell ⟨b32, 0, none⟩ (.slice A1 B1.cells.length cap1)).setCell ⟨b32, 1, none⟩ (.int .i64 B1.count)).setCell ⟨b32, 2, none⟩ (.int .i64 B1.last.kind)).setCell ⟨b32, 3, none⟩ (.int .i64 B1.last.cell)).setCell ⟨b32, 4, none⟩ (.int .u64 B1.last.via)).setCell ⟨b32, 5, none⟩ (.int .u64 B1.last.old)).setCell ⟨b32, 6, none⟩ (.int .u64 B1.last.new)).setCell ⟨b32, 7, none⟩ (.bool B1.last.done)) = w40 at *
      refine ⟨C41.out, ?_⟩
      refine anyC_quiet (a1 := ?a43) (by kernel_rfl) 0 [14] _ _ _ (by kernel_rfl) (by kernel_rfl) C41.out ?_ ?_
      rotate_left
      · intro w' g'
        have hne : Nonempty (St (· = w')) := ⟨⟨w', rfl⟩⟩
        clear g'
        conv => arg 5; simp only [picked, List.filterMap_cons, List.filterMap_nil, List.getElem?_toArray, List.getElem?_cons_zero, List.getElem?_cons_succ]
        show wpQuiet _ _ _ _ [_] _
        repeat (go_big_quiet_step (fail))
        refine wpQuiet_nil ?_
        rfl
      refine ⟨by kernel_rfl, ?_⟩
      have XX := hid (AX.out.gr C41.out)
      have RR := hid (AR.out.gr C41.out)
      obtain ⟨x0, x1, x2, x3, x4, x5, x6, -⟩ := cells15 (XX.out)
      obtain ⟨y0, y1, y2, y3, y4, y5, y6, y7⟩ := cells8 (B42.out)
      obtain ⟨q0, q1, q2, q3, q4, q5, q6, q7, q8, q9, q10, q11, q12, q13, q14⟩ := cells15 (RR.out)
      have rl := RR.out.lt
      have rf := fun i => Blk.free RR.out i
      go_wp2_with fail
      refine bodyPost_ret (v := .tuple #[mval c (.slice A1 B1.cells.length cap1) B1, .int .u64 B1.last.old]) (res68 _ r _ c (.slice A1 B1.cells.length cap1) B1 ⟨_, _, _, rfl⟩ rfl _ rfl ?_) rfl ?_
      · exact blk_put15 RR.out (.int .i64 c.th) (.int .i64 c.sl) (.int .i64 c.cp) (.int .i64 c.he) (.int .i64 c.ke) (.int .i64 c.ev) (.int .i64 c.la) (.slice A1 B1.cells.length cap1) (.int .i64 B1.count) (.int .i64 B1.last.kind) (.int .i64 B1.last.cell) (.int .u64 B1.last.via) (.int .u64 B1.last.old) (.int .u64 B1.last.new) (.bool B1.last.done)
      · exact ⟨_, rfl, HW2.out.keep (chg_put15 _ _ (.int .i64 c.th) (.int .i64 c.sl) (.int .i64 c.cp) (.int .i64 c.he) (.int .i64 c.ke) (.int .i64 c.ev) (.int .i64 c.la) (.slice A1 B1.cells.length cap1) (.int .i64 B1.count) (.int .i64 B1.last.kind) (.int .i64 B1.last.cell) (.int .u64 B1.last.via) (.int .u64 B1.last.old) (.int .u64 B1.last.new) (.bool B1.last.done)) (fun a n c e _ => NR.out a n c e), Gr.step (Gr.trans G0.out C41.out) (chg_put15 _ _ (.int .i64 c.th) (.int .i64 c.sl) (.int .i64 c.cp) (.int .i64 c.he) (.int .i64 c.ke) (.int .i64 c.ev) (.int .i64 c.la) (.slice A1 B1.cells.length cap1) (.int .i64 B1.count) (.int .i64 B1.last.kind) (.int .i64 B1.last.cell) (.int .u64 B1.last.via) (.int .u64 B1.last.old) (.int .u64 B1.last.new) (.bool B1.last.done)) (by rintro i rfl; exact RX.out.1), HF.out⟩
  · conv => arg 4; simp only [picked, List.filterMap_cons, List.filterMap_nil, List.getElem?_toArray, List.getElem?_cons_zero, List.getElem?_cons_succ]
    show wpList _ _ _ [_] _ _
    go_wp2_with fail
    have C45 : Hid (Gr w0 (wd.alloc (.cells #[.slice none 0 0, .int .i64 0, .int .i64 0, .int .i64 0, .int .u64 0, .int .u64 0, .int .u64 0, .bool false] 48))) := hid ((CD.out).alloc _)
    have B46 : Hid (Blk (wd.alloc (.cells #[.slice none 0 0, .int .i64 0, .int .i64 0, .int .i64 0, .int .u64 0, .int .u64 0, .int .u64 0, .bool false] 48)) wd.heap.size #[.slice none 0 0, .int .i64 0, .int .i64 0, .int .i64 0, .int .u64 0, .int .u64 0, .int .u64 0, .bool false] 48) := hid (Blk.new' (by simp))
    have BG : Hid (w0.heap.size ≤ wd.heap.size) := hid ((CD.out).size)
    refine ⟨C45.out, ?_⟩
    generalize (wd.alloc (.cells #[.slice none 0 0, .int .i64 0, .int .i64 0, .int .i64 0, .int .u64 0, .int .u64 0, .int .u64 0, .bool false] 48)) = w44 at *
    generalize hbe : wd.heap.size = b47 at *
    have BE := hid hbe
    clear hbe
    refine anyC_alone 5 C45.out (by kernel_rfl) (by kernel_rfl) ?_
    conv => arg 4; simp only [picked, List.filterMap_cons, List.filterMap_nil, List.getElem?_toArray, List.getElem?_cons_zero, List.getElem?_cons_succ]
    show wpList _ _ _ [_] _ _
    go_wp2_with fail
    refine (hce.out _ (HV.out.gr (Gr.trans G0.out C45.out))).mono ?_
    rintro e w48 ⟨rfl, gw48⟩
    have C49 := hid (Gr.trans C45.out gw48)
    have B50 := hid (Blk.gr B46.out gw48)
    clear gw48
    go_wp2_with fail
    refine ⟨C49.out, ?_⟩
    refine anyC_alone 7 C49.out (by kernel_rfl) (by kernel_rfl) ?_
    conv => arg 4; simp only [picked, List.filterMap_cons, List.filterMap_nil, List.getElem?_toArray, List.getElem?_cons_zero, List.getElem?_cons_succ]
    show wpList _ _ _ [_] _ _
    go_wp2_with fail
    refine (hpl.out _).mono ?_
    rintro e w51 ⟨rfl, gw51⟩
    have C52 := hid (Gr.trans C49.out gw51)
    have B53 := hid (Blk.gr B50.out gw51)
    clear gw51
    go_wp2_with fail
    refine ⟨C52.out, ?_⟩
    refine anyC_alone 8 C52.out (by kernel_rfl) (by kernel_rfl) ?_
    conv => arg 4; simp only [picked, List.filterMap_cons, List.filterMap_nil, List.getElem?_toArray, List.getElem?_cons_zero, List.getElem?_cons_succ]
    show wpList _ _ _ [_] _ _
    go_wp2_with fail
    refine (hdo.out _ (HV.out.gr (Gr.trans G0.out C52.out))).mono ?_
    rintro e w54 ⟨s1, rfl, hw1, gw54, hf1⟩
    have C55 := hid (Gr.trans C52.out gw54)
    have B56 := hid (Blk.gr B53.out gw54)
    obtain ⟨A1, cap1, rfl⟩ := hw1.slice
    have HW := hid hw1
    have NR := hid (hf1.apart (w1 := w) (w0 := w) HV.out r RX.out.1 (by have := C52.out.size; have := RL.out; have := RX.out; first | omega | (simp; omega)) HN.out)
    have NB := hid (hf1.apart (w1 := w) (w0 := w) HV.out b47 (by have := BG.out; have := RX.out; omega) (by have := B53.out.lt; first | omega | (simp; omega)) HN.out)
    have HF := hid (Fresh.mono hf1 (Gr.trans G0.out C52.out).size)
    clear hw1 hf1
    unfold rval
    clear gw54
    go_wp2_with fail
    refine ⟨C55.out, ?_⟩
    refine anyC_quiet (a1 := ?a57) (by kernel_rfl) 2 [9, 10, 11] _ _ _ (by kernel_rfl) (by kernel_rfl) C55.out ?_ ?_
    rotate_left
    · intro w' g'
      have hne : Nonempty (St (· = w')) := ⟨⟨w', rfl⟩⟩
      clear g'
      conv => arg 5; simp only [picked, List.filterMap_cons, List.filterMap_nil, List.getElem?_toArray, List.getElem?_cons_zero, List.getElem?_cons_succ]
      show wpQuiet _ _ _ _ [_, _, _] _
      repeat (go_big_quiet_step (fail))
      refine wpQuiet_nil ?_
      rfl
    have hbl := B56.out.lt
    have hbf := fun i => Blk.free B56.out i
    obtain ⟨z0, z1, z2, z3, z4, z5, z6, z7⟩ := cells8 (B56.out)
    refine anyC_alone 13 C55.out (by kernel_rfl) (by kernel_rfl) ?_
    conv => arg 4; simp only [picked, List.filterMap_cons, List.filterMap_nil, List.getElem?_toArray, List.getElem?_cons_zero, List.getElem?_cons_succ]
    show wpList _ _ _ [_] _ _
    go_wp2_with fail
    have B60 := hid (blk_put8 B56.out (.slice A1 B1.cells.length cap1) (.int .i64 B1.count) (.int .i64 B1.last.kind) (.int .i64 B1.last.cell) (.int .u64 B1.last.via) (.int .u64 B1.last.old) (.int .u64 B1.last.new) (.bool B1.last.done))
    have HC := hid (chg_put8 w54 b47 (.slice A1 B1.cells.length cap1) (.int .i64 B1.count) (.int .i64 B1.last.kind) (.int .i64 B1.last.cell) (.int .u64 B1.last.via) (.int .u64 B1.last.old) (.int .u64 B1.last.new) (.bool B1.last.done))
    have C59 : Hid (Gr w0 ((((((((w54.setCell ⟨b47, 0, none⟩ (.slice A1 B1.cells.length cap1)).setCell ⟨b47, 1, none⟩ (.int .i64 B1.count)).setCell ⟨b47, 2, none⟩ (.int .i64 B1.last.kind)).setCell ⟨b47, 3, none⟩ (.int .i64 B1.last.cell)).setCell ⟨b47, 4, none⟩ (.int .u64 B1.last.via)).setCell ⟨b47, 5, none⟩ (.int .u64 B1.last.old)).setCell ⟨b47, 6, none⟩ (.int .u64 B1.last.new)).setCell ⟨b47, 7, none⟩ (.bool B1.last.done))) := hid ((C55.out).step HC.out (by rintro i rfl; exact BG.out))
    have HW2 := hid (HW.out.keep HC.out (fun a n c e _ => NB.out a n c e))
    clear z0 z1 z2 z3 z4 z5 z6 z7 hbl hbf
    generalize ((((((((w54.setCell ⟨b47, 0, none⟩ (.slice A1 B1.cells.length cap1)).setCell ⟨b47, 1, none⟩ (.int .i64 B1.count)).setCell ⟨b47, 2, none⟩ (.int .i64 B1.last.kind)).setCell ⟨b47, 3, none⟩ (.int .i64 B1.last.cell)).setCell ⟨b47, 4, none⟩ (.int .u64 B1.last.via)).setCell ⟨b47, 5, none⟩ (.int .u64 B1.last.old)).setCell ⟨b47, 6, none⟩ (.int .u64 B1.last.new)).setCell ⟨b47, 7, none⟩ (.bool B1.last.done)) = w58 at *
    refine ⟨C59.out, ?_⟩
    refine anyC_quiet (a1 := ?a61) (by kernel_rfl) 0 [14] _ _ _ (by kernel_rfl) (by kernel_rfl) C59.out ?_ ?_
    rotate_left
    · intro w' g'
      have hne : Nonempty (St (· = w')) := ⟨⟨w', rfl⟩⟩
      clear g'
      conv => arg 5; simp only [picked, List.filterMap_cons, List.filterMap_nil, List.getElem?_toArray, List.getElem?_cons_zero, List.getElem?_cons_succ]
      show wpQuiet _ _ _ _ [_] _
      repeat (go_big_quiet_step (fail))
      refine wpQuiet_nil ?_
      rfl
    refine ⟨by kernel_rfl, ?_⟩
    have XX := hid (AX.out.gr C59.out)
    have RR := hid (AR.out.gr C59.out)
    obtain ⟨x0, x1, x2, x3, x4, x5, x6, -⟩ := cells15 (XX.out)
    obtain ⟨y0, y1, y2, y3, y4, y5, y6, y7⟩ := cells8 (B60.out)
    obtain ⟨q0, q1, q2, q3, q4, q5, q6, q7, q8, q9, q10, q11, q12, q13, q14⟩ := cells15 (RR.out)
    have rl := RR.out.lt
    have rf := fun i => Blk.free RR.out i
    go_wp2_with fail
    refine bodyPost_ret (v := .tuple #[mval c (.slice A1 B1.cells.length cap1) B1, .int .u64 B1.last.old]) (res68 _ r _ c (.slice A1 B1.cells.length cap1) B1 ⟨_, _, _, rfl⟩ rfl _ rfl ?_) rfl ?_
    · exact blk_put15 RR.out (.int .i64 c.th) (.int .i64 c.sl) (.int .i64 c.cp) (.int .i64 c.he) (.int .i64 c.ke) (.int .i64 c.ev) (.int .i64 c.la) (.slice A1 B1.cells.length cap1) (.int .i64 B1.count) (.int .i64 B1.last.kind) (.int .i64 B1.last.cell) (.int .u64 B1.last.via) (.int .u64 B1.last.old) (.int .u64 B1.last.new) (.bool B1.last.done)
    · exact ⟨_, rfl, HW2.out.keep (chg_put15 _ _ (.int .i64 c.th) (.int .i64 c.sl) (.int .i64 c.cp) (.int .i64 c.he) (.int .i64 c.ke) (.int .i64 c.ev) (.int .i64 c.la) (.slice A1 B1.cells.length cap1) (.int .i64 B1.count) (.int .i64 B1.last.kind) (.int .i64 B1.last.cell) (.int .u64 B1.last.via) (.int .u64 B1.last.old) (.int .u64 B1.last.new) (.bool B1.last.done)) (fun a n c e _ => NR.out a n c e), Gr.step (Gr.trans G0.out C59.out) (chg_put15 _ _ (.int .i64 c.th) (.int .i64 c.sl) (.int .i64 c.cp) (.int .i64 c.he) (.int .i64 c.ke) (.int .i64 c.ev) (.int .i64 c.la) (.slice A1 B1.cells.length cap1) (.int .i64 B1.count) (.int .i64 B1.last.kind) (.int .i64 B1.last.cell) (.int .u64 B1.last.via) (.int .u64 B1.last.old) (.int .u64 B1.last.new) (.bool B1.last.done)) (by rintro i rfl; exact RX.out.1), HF.out⟩

set_option maxRecDepth 100000 in
set_option maxHeartbeats 2000000 in
theorem rmswap_any (c : Cf) (s : Value) (B : Bk) (h f : Int) (old v : Int) (hh : U64 h) (w : World) (hv : Words w s B.cells) (hne : B.cells ≠ []) (hl : B.cells.length ≤ 400) :
    Calls Try.prog 71 #[mval c s B, .int .u64 h, .int .i64 f, .int .u64 old, .int .u64 v] w (MTold w c s (B.swap (c.cel (hI h) f) (hPl h) old v) (.bool ((B.swap (c.cel (hI h) f) (hPl h) old v).last.done))) := by
  have hce := hid (fun w hv => rcell_any c s B h f hh w hv hl)
  have hpl := hid (rplain_any h hh)
  have hdo := hid (fun w hv => rswap_any s B (c.cel (hI h) f) (hPl h) old v w hv hl)
  have hlen : (B.swap (c.cel (hI h) f) (hPl h) old v).cells.length = B.cells.length := by unfold Bk.swap; split <;> simp [Bk.done, Bk.none]
  generalize B.swap (c.cel (hI h) f) (hPl h) old v = B1 at *
  generalize c.cel (hI h) f = x at *
  generalize hPl h = y at *
  obtain ⟨A, cap, rfl⟩ := hv.slice
  have HV := hid hv
  have HL := hid hlen
  have HN := hid hne
  unfold mval at hce
  unfold rval at hdo
  unfold mval
  clear hv hlen hne
  go_enter Try.func71, Try.ntmps71
  go_wp2_with fail
  have G0 := hid (((Gr.refl w).alloc (.cells #[.int .i64 c.th, .int .i64 c.sl, .int .i64 c.cp, .int .i64 c.he, .int .i64 c.ke, .int .i64 c.ev, .int .i64 c.la, .slice A B.cells.length cap, .int .i64 B.count, .int .i64 B.last.kind, .int .i64 B.last.cell, .int .u64 B.last.via, .int .u64 B.last.old, .int .u64 B.last.new, .bool B.last.done] 50)).alloc (.cells #[.int .i64 0, .int .i64 0, .int .i64 0, .int .i64 0, .int .i64 0, .int .i64 0, .int .i64 0, .slice none 0 0, .int .i64 0, .int .i64 0, .int .i64 0, .int .u64 0, .int .u64 0, .int .u64 0, .bool false] 50))
  have AX : Hid (Blk ((w.alloc (.cells #[.int .i64 c.th, .int .i64 c.sl, .int .i64 c.cp, .int .i64 c.he, .int .i64 c.ke, .int .i64 c.ev, .int .i64 c.la, .slice A B.cells.length cap, .int .i64 B.count, .int .i64 B.last.kind, .int .i64 B.last.cell, .int .u64 B.last.via, .int .u64 B.last.old, .int .u64 B.last.new, .bool B.last.done] 50)).alloc (.cells #[.int .i64 0, .int .i64 0, .int .i64 0, .int .i64 0, .int .i64 0, .int .i64 0, .int .i64 0, .slice none 0 0, .int .i64 0, .int .i64 0, .int .i64 0, .int .u64 0, .int .u64 0, .int .u64 0, .bool false] 50)) w.heap.size #[.int .i64 c.th, .int .i64 c.sl, .int .i64 c.cp, .int .i64 c.he, .int .i64 c.ke, .int .i64 c.ev, .int .i64 c.la, .slice A B.cells.length cap, .int .i64 B.count, .int .i64 B.last.kind, .int .i64 B.last.cell, .int .u64 B.last.via, .int .u64 B.last.old, .int .u64 B.last.new, .bool B.last.done] 50) := hid ((Blk.new w #[.int .i64 c.th, .int .i64 c.sl, .int .i64 c.cp, .int .i64 c.he, .int .i64 c.ke, .int .i64 c.ev, .int .i64 c.la, .slice A B.cells.length cap, .int .i64 B.count, .int .i64 B.last.kind, .int .i64 B.last.cell, .int .u64 B.last.via, .int .u64 B.last.old, .int .u64 B.last.new, .bool B.last.done] 50).alloc _)
  have AR : Hid (Blk ((w.alloc (.cells #[.int .i64 c.th, .int .i64 c.sl, .int .i64 c.cp, .int .i64 c.he, .int .i64 c.ke, .int .i64 c.ev, .int .i64 c.la, .slice A B.cells.length cap, .int .i64 B.count, .int .i64 B.last.kind, .int .i64 B.last.cell, .int .u64 B.last.via, .int .u64 B.last.old, .int .u64 B.last.new, .bool B.last.done] 50)).alloc (.cells #[.int .i64 0, .int .i64 0, .int .i64 0, .int .i64 0, .int .i64 0, .int .i64 0, .int .i64 0, .slice none 0 0, .int .i64 0, .int .i64 0, .int .i64 0, .int .u64 0, .int .u64 0, .int .u64 0, .bool false] 50)) (w.heap.size + 1) #[.int .i64 0, .int .i64 0, .int .i64 0, .int .i64 0, .int .i64 0, .int .i64 0, .int .i64 0, .slice none 0 0, .int .i64 0, .int .i64 0, .int .i64 0, .int .u64 0, .int .u64 0, .int .u64 0, .bool false] 50) := hid (Blk.new' (by simp))
  generalize ((w.alloc (.cells #[.int .i64 c.th, .int .i64 c.sl, .int .i64 c.cp, .int .i64 c.he, .int .i64 c.ke, .int .i64 c.ev, .int .i64 c.la, .slice A B.cells.length cap, .int .i64 B.count, .int .i64 B.last.kind, .int .i64 B.last.cell, .int .u64 B.last.via, .int .u64 B.last.old, .int .u64 B.last.new, .bool B.last.done] 50)).alloc (.cells #[.int .i64 0, .int .i64 0, .int .i64 0, .int .i64 0, .int .i64 0, .int .i64 0, .int .i64 0, .slice none 0 0, .int .i64 0, .int .i64 0, .int .i64 0, .int .u64 0, .int .u64 0, .int .u64 0, .bool false] 50)) = w0 at *
  generalize hr : w.heap.size + 1 = r at *
  have RL := hid AR.out.lt
  have RX : Hid (w.heap.size ≤ r ∧ w.heap.size ≠ r ∧ w.heap.size < w0.heap.size) := hid ⟨by omega, by omega, AX.out.lt⟩
  clear hr
  refine wp_region_anyC (n := 17) (Gr w0) (by kernel_rfl) rfl ?_
  have CD := hid ((Gr.refl w0).drew)
  generalize w0.drew = wd at *
  refine anyC_quiet (a1 := ?a62) (by kernel_rfl) 9 [0, 1, 2, 3, 4, 6, 8, 9] _ _ _ (by kernel_rfl) (by kernel_rfl) CD.out ?_ ?_
  rotate_left
  · intro w' g'
    have hne : Nonempty (St (· = w')) := ⟨⟨w', rfl⟩⟩
    have X3 := AX.out.gr g'
    obtain ⟨y0, y1, y2, y3, y4, y5, y6, y7, y8, y9, y10, y11, y12, y13, y14⟩ := st15 (X3)
    clear X3
    clear g'
    conv => arg 5; simp only [picked, List.filterMap_cons, List.filterMap_nil, List.getElem?_toArray, List.getElem?_cons_zero, List.getElem?_cons_succ]
    show wpQuiet _ _ _ _ [_, _, _, _, _, _, _, _] _
    repeat (go_big_quiet_step (fail))
    refine wpQuiet_nil ?_
    rfl
  refine anyC_two 5 14 CD.out (by kernel_rfl) (by kernel_rfl) (by kernel_rfl) ?_ ?_
  · conv => arg 4; simp only [picked, List.filterMap_cons, List.filterMap_nil, List.getElem?_toArray, List.getElem?_cons_zero, List.getElem?_cons_succ]
    show wpList _ _ _ [_] _ _
    go_wp2_with fail
    refine (hce.out _ (HV.out.gr (Gr.trans G0.out CD.out))).mono ?_
    rintro e w63 ⟨rfl, gw63⟩
    have C64 := hid (Gr.trans CD.out gw63)
    clear gw63
    go_wp2_with fail
    refine ⟨C64.out, ?_⟩
    refine anyC_two 7 14 C64.out (by kernel_rfl) (by kernel_rfl) (by kernel_rfl) ?_ ?_
    · conv => arg 4; simp only [picked, List.filterMap_cons, List.filterMap_nil, List.getElem?_toArray, List.getElem?_cons_zero, List.getElem?_cons_succ]
      show wpList _ _ _ [_] _ _
      go_wp2_with fail
      refine (hpl.out _).mono ?_
      rintro e w65 ⟨rfl, gw65⟩
      have C66 := hid (Gr.trans C64.out gw65)
      clear gw65
      go_wp2_with fail
      refine ⟨C66.out, ?_⟩
      refine anyC_two 10 14 C66.out (by kernel_rfl) (by kernel_rfl) (by kernel_rfl) ?_ ?_
      · conv => arg 4; simp only [picked, List.filterMap_cons, List.filterMap_nil, List.getElem?_toArray, List.getElem?_cons_zero, List.getElem?_cons_succ]
        show wpList _ _ _ [_] _ _
        go_wp2_with fail
        refine (hdo.out _ (HV.out.gr (Gr.trans G0.out C66.out))).mono ?_
        rintro e w67 ⟨s1, rfl, hw1, gw67, hf1⟩
        have C68 := hid (Gr.trans C66.out gw67)
        obtain ⟨A1, cap1, rfl⟩ := hw1.slice
        have HW := hid hw1
        have NR := hid (hf1.apart (w1 := w) (w0 := w) HV.out r RX.out.1 (by have := C66.out.size; have := RL.out; have := RX.out; first | omega | (simp; omega)) HN.out)
        have HF := hid (Fresh.mono hf1 (Gr.trans G0.out C66.out).size)
        clear hw1 hf1
        unfold rval
        clear gw67
        go_wp2_with fail
        refine ⟨C68.out, ?_⟩
        refine anyC_quiet (a1 := ?a69) (by kernel_rfl) 3 [11, 12, 13] _ _ _ (by kernel_rfl) (by kernel_rfl) C68.out ?_ ?_
        rotate_left
        · intro w' g'
          have hne : Nonempty (St (· = w')) := ⟨⟨w', rfl⟩⟩
          clear g'
          conv => arg 5; simp only [picked, List.filterMap_cons, List.filterMap_nil, List.getElem?_toArray, List.getElem?_cons_zero, List.getElem?_cons_succ]
          show wpQuiet _ _ _ _ [_, _, _] _
          repeat (go_big_quiet_step (fail))
          refine wpQuiet_nil ?_
          rfl
        refine anyC_alone 14 C68.out (by kernel_rfl) (by kernel_rfl) ?_
        conv => arg 4; simp only [picked, List.filterMap_cons, List.filterMap_nil, List.getElem?_toArray, List.getElem?_cons_zero, List.getElem?_cons_succ]
        show wpList _ _ _ [_] _ _
        go_wp2_with fail
        have C71 : Hid (Gr w0 (w67.alloc (.cells #[.slice none 0 0, .int .i64 0, .int .i64 0, .int .i64 0, .int .u64 0, .int .u64 0, .int .u64 0, .bool false] 48))) := hid ((C68.out).alloc _)
        have B72 : Hid (Blk (w67.alloc (.cells #[.slice none 0 0, .int .i64 0, .int .i64 0, .int .i64 0, .int .u64 0, .int .u64 0, .int .u64 0, .bool false] 48)) w67.heap.size #[.slice none 0 0, .int .i64 0, .int .i64 0, .int .i64 0, .int .u64 0, .int .u64 0, .int .u64 0, .bool false] 48) := hid (Blk.new' (by simp))
        have BG : Hid (w0.heap.size ≤ w67.heap.size) := hid ((C68.out).size)
        refine ⟨C71.out, ?_⟩
        have GC : Hid (Gr w67 (w67.alloc (.cells #[.slice none 0 0, .int .i64 0, .int .i64 0, .int .i64 0, .int .u64 0, .int .u64 0, .int .u64 0, .bool false] 48))) := hid ((Gr.refl _).alloc _)
        generalize (w67.alloc (.cells #[.slice none 0 0, .int .i64 0, .int .i64 0, .int .i64 0, .int .u64 0, .int .u64 0, .int .u64 0, .bool false] 48)) = w70 at *
        generalize hbe : w67.heap.size = b73 at *
        have BE := hid hbe
        clear hbe
        have hbl := B72.out.lt
        have hbf := fun i => Blk.free B72.out i
        obtain ⟨z0, z1, z2, z3, z4, z5, z6, z7⟩ := cells8 (B72.out)
        refine anyC_alone 15 C71.out (by kernel_rfl) (by kernel_rfl) ?_
        conv => arg 4; simp only [picked, List.filterMap_cons, List.filterMap_nil, List.getElem?_toArray, List.getElem?_cons_zero, List.getElem?_cons_succ]
        show wpList _ _ _ [_] _ _
        go_wp2_with fail
        have B76 := hid (blk_put8 B72.out (.slice A1 B1.cells.length cap1) (.int .i64 B1.count) (.int .i64 B1.last.kind) (.int .i64 B1.last.cell) (.int .u64 B1.last.via) (.int .u64 B1.last.old) (.int .u64 B1.last.new) (.bool B1.last.done))
        have HC := hid (chg_put8 w70 b73 (.slice A1 B1.cells.length cap1) (.int .i64 B1.count) (.int .i64 B1.last.kind) (.int .i64 B1.last.cell) (.int .u64 B1.last.via) (.int .u64 B1.last.old) (.int .u64 B1.last.new) (.bool B1.last.done))
        have C75 : Hid (Gr w0 ((((((((w70.setCell ⟨b73, 0, none⟩ (.slice A1 B1.cells.length cap1)).setCell ⟨b73, 1, none⟩ (.int .i64 B1.count)).setCell ⟨b73, 2, none⟩ (.int .i64 B1.last.kind)).setCell ⟨b73, 3, none⟩ (.int .i64 B1.last.cell)).setCell ⟨b73, 4, none⟩ (.int .u64 B1.last.via)).setCell ⟨b73, 5, none⟩ (.int .u64 B1.last.old)).setCell ⟨b73, 6, none⟩ (.int .u64 B1.last.new)).setCell ⟨b73, 7, none⟩ (.bool B1.last.done))) := hid ((C71.out).step HC.out (by rintro i rfl; exact BG.out))
        have HW2 := hid (HW.out.keep (Chg.trans GC.out.chg HC.out) (fun a n c e h => by have := BE.out; omega))
        clear z0 z1 z2 z3 z4 z5 z6 z7 hbl hbf
        generalize ((((((((w70.setCell ⟨b73, 0, none⟩ (.slice A1 B1.cells.length cap1)).setCell ⟨b73, 1, none⟩ (.int .i64 B1.count)).setCell ⟨b73, 2, none⟩ (.int .i64 B1.last.kind)).setCell ⟨b73, 3, none⟩ (.int .i64 B1.last.cell)).setCell ⟨b73, 4, none⟩ (.int .u64 B1.last.via)).setCell ⟨b73, 5, none⟩ (.int .u64 B1.last.old)).setCell ⟨b73, 6, none⟩ (.int .u64 B1.last.new)).setCell ⟨b73, 7, none⟩ (.bool B1.last.done)) = w74 at *
        refine ⟨C75.out, ?_⟩
        refine anyC_quiet (a1 := ?a77) (by kernel_rfl) 0 [16] _ _ _ (by kernel_rfl) (by kernel_rfl) C75.out ?_ ?_
        rotate_left
        · intro w' g'
          have hne : Nonempty (St (· = w')) := ⟨⟨w', rfl⟩⟩
          clear g'
          conv => arg 5; simp only [picked, List.filterMap_cons, List.filterMap_nil, List.getElem?_toArray, List.getElem?_cons_zero, List.getElem?_cons_succ]
          show wpQuiet _ _ _ _ [_] _
          repeat (go_big_quiet_step (fail))
          refine wpQuiet_nil ?_
          rfl
        refine ⟨by kernel_rfl, ?_⟩
        have XX := hid (AX.out.gr C75.out)
        have RR := hid (AR.out.gr C75.out)
        obtain ⟨x0, x1, x2, x3, x4, x5, x6, -⟩ := cells15 (XX.out)
        obtain ⟨y0, y1, y2, y3, y4, y5, y6, y7⟩ := cells8 (B76.out)
        obtain ⟨q0, q1, q2, q3, q4, q5, q6, q7, q8, q9, q10, q11, q12, q13, q14⟩ := cells15 (RR.out)
        have rl := RR.out.lt
        have rf := fun i => Blk.free RR.out i
        go_wp2_with fail
        refine bodyPost_ret (v := .tuple #[mval c (.slice A1 B1.cells.length cap1) B1, .bool B1.last.done]) (res71 _ r _ c (.slice A1 B1.cells.length cap1) B1 ⟨_, _, _, rfl⟩ rfl _ rfl ?_) rfl ?_
        · exact blk_put15 RR.out (.int .i64 c.th) (.int .i64 c.sl) (.int .i64 c.cp) (.int .i64 c.he) (.int .i64 c.ke) (.int .i64 c.ev) (.int .i64 c.la) (.slice A1 B1.cells.length cap1) (.int .i64 B1.count) (.int .i64 B1.last.kind) (.int .i64 B1.last.cell) (.int .u64 B1.last.via) (.int .u64 B1.last.old) (.int .u64 B1.last.new) (.bool B1.last.done)
        · exact ⟨_, rfl, HW2.out.keep (chg_put15 _ _ (.int .i64 c.th) (.int .i64 c.sl) (.int .i64 c.cp) (.int .i64 c.he) (.int .i64 c.ke) (.int .i64 c.ev) (.int .i64 c.la) (.slice A1 B1.cells.length cap1) (.int .i64 B1.count) (.int .i64 B1.last.kind) (.int .i64 B1.last.cell) (.int .u64 B1.last.via) (.int .u64 B1.last.old) (.int .u64 B1.last.new) (.bool B1.last.done)) (fun a n c e _ => NR.out a n c e), Gr.step (Gr.trans G0.out C75.out) (chg_put15 _ _ (.int .i64 c.th) (.int .i64 c.sl) (.int .i64 c.cp) (.int .i64 c.he) (.int .i64 c.ke) (.int .i64 c.ev) (.int .i64 c.la) (.slice A1 B1.cells.length cap1) (.int .i64 B1.count) (.int .i64 B1.last.kind) (.int .i64 B1.last.cell) (.int .u64 B1.last.via) (.int .u64 B1.last.old) (.int .u64 B1.last.new) (.bool B1.last.done)) (by rintro i rfl; exact RX.out.1), HF.out⟩
      · conv => arg 4; simp only [picked, List.filterMap_cons, List.filterMap_nil, List.getElem?_toArray, List.getElem?_cons_zero, List.getElem?_cons_succ]
        show wpList _ _ _ [_] _ _
        go_wp2_with fail
        have C79 : Hid (Gr w0 (w65.alloc (.cells #[.slice none 0 0, .int .i64 0, .int .i64 0, .int .i64 0, .int .u64 0, .int .u64 0, .int .u64 0, .bool false] 48))) := hid ((C66.out).alloc _)
        have B80 : Hid (Blk (w65.alloc (.cells #[.slice none 0 0, .int .i64 0, .int .i64 0, .int .i64 0, .int .u64 0, .int .u64 0, .int .u64 0, .bool false] 48)) w65.heap.size #[.slice none 0 0, .int .i64 0, .int .i64 0, .int .i64 0, .int .u64 0, .int .u64 0, .int .u64 0, .bool false] 48) := hid (Blk.new' (by simp))
        have BG : Hid (w0.heap.size ≤ w65.heap.size) := hid ((C66.out).size)
        refine ⟨C79.out, ?_⟩
        generalize (w65.alloc (.cells #[.slice none 0 0, .int .i64 0, .int .i64 0, .int .i64 0, .int .u64 0, .int .u64 0, .int .u64 0, .bool false] 48)) = w78 at *
        generalize hbe : w65.heap.size = b81 at *
        have BE := hid hbe
        clear hbe
        refine anyC_alone 10 C79.out (by kernel_rfl) (by kernel_rfl) ?_
        conv => arg 4; simp only [picked, List.filterMap_cons, List.filterMap_nil, List.getElem?_toArray, List.getElem?_cons_zero, List.getElem?_cons_succ]
        show wpList _ _ _ [_] _ _
        go_wp2_with fail
        refine (hdo.out _ (HV.out.gr (Gr.trans G0.out C79.out))).mono ?_
        rintro e w82 ⟨s1, rfl, hw1, gw82, hf1⟩
        have C83 := hid (Gr.trans C79.out gw82)
        have B84 := hid (Blk.gr B80.out gw82)
        obtain ⟨A1, cap1, rfl⟩ := hw1.slice
        have HW := hid hw1
        have NR := hid (hf1.apart (w1 := w) (w0 := w) HV.out r RX.out.1 (by have := C79.out.size; have := RL.out; have := RX.out; first | omega | (simp; omega)) HN.out)
        have NB := hid (hf1.apart (w1 := w) (w0 := w) HV.out b81 (by have := BG.out; have := RX.out; omega) (by have := B80.out.lt; first | omega | (simp; omega)) HN.out)
        have HF := hid (Fresh.mono hf1 (Gr.trans G0.out C79.out).size)
        clear hw1 hf1
        unfold rval
        clear gw82
        go_wp2_with fail
        refine ⟨C83.out, ?_⟩
        refine anyC_quiet (a1 := ?a85) (by kernel_rfl) 2 [11, 12, 13] _ _ _ (by kernel_rfl) (by kernel_rfl) C83.out ?_ ?_
        rotate_left
        · intro w' g'
          have hne : Nonempty (St (· = w')) := ⟨⟨w', rfl⟩⟩
          clear g'
          conv => arg 5; simp only [picked, List.filterMap_cons, List.filterMap_nil, List.getElem?_toArray, List.getElem?_cons_zero, List.getElem?_cons_succ]
          show wpQuiet _ _ _ _ [_, _, _] _
          repeat (go_big_quiet_step (fail))
          refine wpQuiet_nil ?_
          rfl
        have hbl := B84.out.lt
        have hbf := fun i => Blk.free B84.out i
        obtain ⟨z0, z1, z2, z3, z4, z5, z6, z7⟩ := cells8 (B84.out)
        refine anyC_alone 15 C83.out (by kernel_rfl) (by kernel_rfl) ?_
        conv => arg 4; simp only [picked, List.filterMap_cons, List.filterMap_nil, List.getElem?_toArray, List.getElem?_cons_zero, List.getElem?_cons_succ]
        show wpList _ _ _ [_] _ _
        go_wp2_with fail
        have B88 := hid (blk_put8 B84.out (.slice A1 B1.cells.length cap1) (.int .i64 B1.count) (.int .i64 B1.last.kind) (.int .i64 B1.last.cell) (.int .u64 B1.last.via) (.int .u64 B1.last.old) (.int .u64 B1.last.new) (.bool B1.last.done))
        have HC := hid (chg_put8 w82 b81 (.slice A1 B1.cells.length cap1) (.int .i64 B1.count) (.int .i64 B1.last.kind) (.int .i64 B1.last.cell) (.int .u64 B1.last.via) (.int .u64 B1.last.old) (.int .u64 B1.last.new) (.bool B1.last.done))
        have C87 : Hid (Gr w0 ((((((((w82.setCell ⟨b81, 0, none⟩ (.slice A1 B1.cells.length cap1)).setCell ⟨b81, 1, none⟩ (.int .i64 B1.count)).setCell ⟨b81, 2, none⟩ (.int .i64 B1.last.kind)).setCell ⟨b81, 3, none⟩ (.int .i64 B1.last.cell)).setCell ⟨b81, 4, none⟩ (.int .u64 B1.last.via)).setCell ⟨b81, 5, none⟩ (.int .u64 B1.last.old)).setCell ⟨b81, 6, none⟩ (.int .u64 B1.last.new)).setCell ⟨b81, 7, none⟩ (.bool B1.last.done))) := hid ((C83.out).step HC.out (by rintro i rfl; exact BG.out))
        have HW2 := hid (HW.out.keep HC.out (fun a n c e _ => NB.out a n c e))
        clear z0 z1 z2 z3 z4 z5 z6 z7 hbl hbf
        generalize ((((((((w82.setCell ⟨b81, 0, none⟩ (.slice A1 B1.cells.length cap1)).setCell ⟨b81, 1, none⟩ (.int .i64 B1.count)).setCell ⟨b81, 2, none⟩ (.int .i64 B1.last.kind)).setCell ⟨b81, 3, none⟩ (.int .i64 B1.last.cell)).setCell ⟨b81, 4, none⟩ (.int .u64 B1.last.via)).setCell ⟨b81, 5, none⟩ (.int .u64 B1.last.old)).setCell ⟨b81, 6, none⟩ (.int .u64 B1.last.new)).setCell ⟨b81, 7, none⟩ (.bool B1.last.done)) = w86 at *
        refine ⟨C87.out, ?_⟩
        refine anyC_quiet (a1 := ?a89) (by kernel_rfl) 0 [16] _ _ _ (by kernel_rfl) (by kernel_rfl) C87.out ?_ ?_
        rotate_left
        · intro w' g'
          have hne : Nonempty (St (· = w')) := ⟨⟨w', rfl⟩⟩
          clear g'
          conv => arg 5; simp only [picked, List.filterMap_cons, List.filterMap_nil, List.getElem?_toArray, List.getElem?_cons_zero, List.getElem?_cons_succ]
          show wpQuiet _ _ _ _ [_] _
          repeat (go_big_quiet_step (fail))
          refine wpQuiet_nil ?_
          rfl
        refine ⟨by kernel_rfl, ?_⟩
        have XX := hid (AX.out.gr C87.out)
        have RR := hid (AR.out.gr C87.out)
        obtain ⟨x0, x1, x2, x3, x4, x5, x6, -⟩ := cells15 (XX.out)
        obtain ⟨y0, y1, y2, y3, y4, y5, y6, y7⟩ := cells8 (B88.out)
        obtain ⟨q0, q1, q2, q3, q4, q5, q6, q7, q8, q9, q10, q11, q12, q13, q14⟩ := cells15 (RR.out)
        have rl := RR.out.lt
        have rf := fun i => Blk.free RR.out i
        go_wp2_with fail
        refine bodyPost_ret (v := .tuple #[mval c (.slice A1 B1.cells.length cap1) B1, .bool B1.last.done]) (res71 _ r _ c (.slice A1 B1.cells.length cap1) B1 ⟨_, _, _, rfl⟩ rfl _ rfl ?_) rfl ?_
        · exact blk_put15 RR.out (.int .i64 c.th) (.int .i64 c.sl) (.int .i64 c.cp) (.int .i64 c.he) (.int .i64 c.ke) (.int .i64 c.ev) (.int .i64 c.la) (.slice A1 B1.cells.length cap1) (.int .i64 B1.count) (.int .i64 B1.last.kind) (.int .i64 B1.last.cell) (.int .u64 B1.last.via) (.int .u64 B1.last.old) (.int .u64 B1.last.new) (.bool B1.last.done)
        · exact ⟨_, rfl, HW2.out.keep (chg_put15 _ _ (.int .i64 c.th) (.int .i64 c.sl) (.int .i64 c.cp) (.int .i64 c.he) (.int .i64 c.ke) (.int .i64 c.ev) (.int .i64 c.la) (.slice A1 B1.cells.length cap1) (.int .i64 B1.count) (.int .i64 B1.last.kind) (.int .i64 B1.last.cell) (.int .u64 B1.last.via) (.int .u64 B1.last.old) (.int .u64 B1.last.new) (.bool B1.last.done)) (fun a n c e _ => NR.out a n c e), Gr.step (Gr.trans G0.out C87.out) (chg_put15 _ _ (.int .i64 c.th) (.int .i64 c.sl) (.int .i64 c.cp) (.int .i64 c.he) (.int .i64 c.ke) (.int .i64 c.ev) (.int .i64 c.la) (.slice A1 B1.cells.length cap1) (.int .i64 B1.count) (.int .i64 B1.last.kind) (.int .i64 B1.last.cell) (.int .u64 B1.last.via) (.int .u64 B1.last.old) (.int .u64 B1.last.new) (.bool B1.last.done)) (by rintro i rfl; exact RX.out.1), HF.out⟩
    · conv => arg 4; simp only [picked, List.filterMap_cons, List.filterMap_nil, List.getElem?_toArray, List.getElem?_cons_zero, List.getElem?_cons_succ]
      show wpList _ _ _ [_] _ _
      go_wp2_with fail
      have C91 : Hid (Gr w0 (w63.alloc (.cells #[.slice none 0 0, .int .i64 0, .int .i64 0, .int .i64 0, .int .u64 0, .int .u64 0, .int .u64 0, .bool false] 48))) := hid ((C64.out).alloc _)
      have B92 : Hid (Blk (w63.alloc (.cells #[.slice none 0 0, .int .i64 0, .int .i64 0, .int .i64 0, .int .u64 0, .int .u64 0, .int .u64 0, .bool false] 48)) w63.heap.size #[.slice none 0 0, .int .i64 0, .int .i64 0, .int .i64 0, .int .u64 0, .int .u64 0, .int .u64 0, .bool false] 48) := hid (Blk.new' (by simp))
      have BG : Hid (w0.heap.size ≤ w63.heap.size) := hid ((C64.out).size)
      refine ⟨C91.out, ?_⟩
      generalize (w63.alloc (.cells #[.slice none 0 0, .int .i64 0, .int .i64 0, .int .i64 0, .int .u64 0, .int .u64 0, .int .u64 0, .bool false] 48)) = w90 at *
      generalize hbe : w63.heap.size = b93 at *
      have BE := hid hbe
      clear hbe
      refine anyC_alone 7 C91.out (by kernel_rfl) (by kernel_rfl) ?_
      conv => arg 4; simp only [picked, List.filterMap_cons, List.filterMap_nil, List.getElem?_toArray, List.getElem?_cons_zero, List.getElem?_cons_succ]
      show wpList _ _ _ [_] _ _
      go_wp2_with fail
      refine (hpl.out _).mono ?_
      rintro e w94 ⟨rfl, gw94⟩
      have C95 := hid (Gr.trans C91.out gw94)
      have B96 := hid (Blk.gr B92.out gw94)
      clear gw94
      go_wp2_with fail
      refine ⟨C95.out, ?_⟩
      refine anyC_alone 10 C95.out (by kernel_rfl) (by kernel_rfl) ?_
      conv => arg 4; simp only [picked, List.filterMap_cons, List.filterMap_nil, List.getElem?_toArray, List.getElem?_cons_zero, List.getElem?_cons_succ]
      show wpList _ _ _ [_] _ _
      go_wp2_with fail
      refine (hdo.out _ (HV.out.gr (Gr.trans G0.out C95.out))).mono ?_
      rintro e w97 ⟨s1, rfl, hw1, gw97, hf1⟩
      have C98 := hid (Gr.trans C95.out gw97)
      have B99 := hid (Blk.gr B96.out gw97)
      obtain ⟨A1, cap1, rfl⟩ := hw1.slice
      have HW := hid hw1
      have NR := hid (hf1.apart (w1 := w) (w0 := w) HV.out r RX.out.1 (by have := C95.out.size; have := RL.out; have := RX.out; first | omega | (simp; omega)) HN.out)
      have NB := hid (hf1.apart (w1 := w) (w0 := w) HV.out b93 (by have := BG.out; have := RX.out; omega) (by have := B96.out.lt; first | omega | (simp; omega)) HN.out)
      have HF := hid (Fresh.mono hf1 (Gr.trans G0.out C95.out).size)
      clear hw1 hf1
      unfold rval
      clear gw97
      go_wp2_with fail
      refine ⟨C98.out, ?_⟩
      refine anyC_quiet (a1 := ?a100) (by kernel_rfl) 2 [11, 12, 13] _ _ _ (by kernel_rfl) (by kernel_rfl) C98.out ?_ ?_
      rotate_left
      · intro w' g'
        have hne : Nonempty (St (· = w')) := ⟨⟨w', rfl⟩⟩
        clear g'
        conv => arg 5; simp only [picked, List.filterMap_cons, List.filterMap_nil, List.getElem?_toArray, List.getElem?_cons_zero, List.getElem?_cons_succ]
        show wpQuiet _ _ _ _ [_, _, _] _
        repeat (go_big_quiet_step (fail))
        refine wpQuiet_nil ?_
        rfl
      have hbl := B99.out.lt
      have hbf := fun i => Blk.free B99.out i
      obtain ⟨z0, z1, z2, z3, z4, z5, z6, z7⟩ := cells8 (B99.out)
      refine anyC_alone 15 C98.out (by kernel_rfl) (by kernel_rfl) ?_
      conv => arg 4; simp only [picked, List.filterMap_cons, List.filterMap_nil, List.getElem?_toArray, List.getElem?_cons_zero, List.getElem?_cons_succ]
      show wpList _ _ _ [_] _ _
      go_wp2_with fail
      have B103 := hid (blk_put8 B99.out (.slice A1 B1.cells.length cap1) (.int .i64 B1.count) (.int .i64 B1.last.kind) (.int .i64 B1.last.cell) (.int .u64 B1.last.via) (.int .u64 B1.last.old) (.int .u64 B1.last.new) (.bool B1.last.done))
      have HC := hid (chg_put8 w97 b93 (.slice A1 B1.cells.length cap1) (.int .i64 B1.count) (.int .i64 B1.last.kind) (.int .i64 B1.last.cell) (.int .u64 B1.last.via) (.int .u64 B1.last.old) (.int .u64 B1.last.new) (.bool B1.last.done))
      have C102 : Hid (Gr w0 ((((((((w97.setCell ⟨b93, 0, none⟩ (.slice A1 B1.cells.length cap1)).setCell ⟨b93, 1, none⟩ (.int .i64 B1.count)).setCell ⟨b93, 2, none⟩ (.int .i64 B1.last.kind)).setCell ⟨b93, 3, none⟩ (.int .i64 B1.last.cell)).setCell ⟨b93, 4, none⟩ (.int .u64 B1.last.via)).setCell ⟨b93, 5, none⟩ (.int .u64 B1.last.old)).setCell ⟨b93, 6, none⟩ (.int .u64 B1.last.new)).setCell ⟨b93, 7, none⟩ (.bool B1.last.done))) := hid ((C98.out).step HC.out (by rintro i rfl; exact BG.out))
      have HW2 := hid (HW.out.keep HC.out (fun a n c e _ => NB.out a n c e))
      clear z0 z1 z2 z3 z4 z5 z6 z7 hbl hbf
      generalize ((((((((w97.setCell ⟨b93, 0, none⟩ (.slice A1 B1.cells.length cap1)).setCell ⟨b93, 1, none⟩ (.int .i64 B1.count)).setCell ⟨b93, 2, none⟩ (.int .i64 B1.last.kind)).setCell ⟨b93, 3, none⟩ (.int .i64 B1.last.cell)).setCell ⟨b93, 4, none⟩ (.int .u64 B1.last.via)).setCell ⟨b93, 5, none⟩ (.int .u64 B1.last.old)).setCell ⟨b93, 6, none⟩ (.int .u64 B1.last.new)).setCell ⟨b93, 7, none⟩ (.bool B1.last.done)) = w101 at *
      refine ⟨C102.out, ?_⟩
      refine anyC_quiet (a1 := ?a104) (by kernel_rfl) 0 [16] _ _ _ (by kernel_rfl) (by kernel_rfl) C102.out ?_ ?_
      rotate_left
      · intro w' g'
        have hne : Nonempty (St (· = w')) := ⟨⟨w', rfl⟩⟩
        clear g'
        conv => arg 5; simp only [picked, List.filterMap_cons, List.filterMap_nil, List.getElem?_toArray, List.getElem?_cons_zero, List.getElem?_cons_succ]
        show wpQuiet _ _ _ _ [_] _
        repeat (go_big_quiet_step (fail))
        refine wpQuiet_nil ?_
        rfl
      refine ⟨by kernel_rfl, ?_⟩
      have XX := hid (AX.out.gr C102.out)
      have RR := hid (AR.out.gr C102.out)
      obtain ⟨x0, x1, x2, x3, x4, x5, x6, -⟩ := cells15 (XX.out)
      obtain ⟨y0, y1, y2, y3, y4, y5, y6, y7⟩ := cells8 (B103.out)
      obtain ⟨q0, q1, q2, q3, q4, q5, q6, q7, q8, q9, q10, q11, q12, q13, q14⟩ := cells15 (RR.out)
      have rl := RR.out.lt
      have rf := fun i => Blk.free RR.out i
      go_wp2_with fail
      refine bodyPost_ret (v := .tuple #[mval c (.slice A1 B1.cells.length cap1) B1, .bool B1.last.done]) (res71 _ r _ c (.slice A1 B1.cells.length cap1) B1 ⟨_, _, _, rfl⟩ rfl _ rfl ?_) rfl ?_
      · exact blk_put15 RR.out (.int .i64 c.th) (.int .i64 c.sl) (.int .i64 c.cp) (.int .i64 c.he) (.int .i64 c.ke) (.int .i64 c.ev) (.int .i64 c.la) (.slice A1 B1.cells.length cap1) (.int .i64 B1.count) (.int .i64 B1.last.kind) (.int .i64 B1.last.cell) (.int .u64 B1.last.via) (.int .u64 B1.last.old) (.int .u64 B1.last.new) (.bool B1.last.done)
      · exact ⟨_, rfl, HW2.out.keep (chg_put15 _ _ (.int .i64 c.th) (.int .i64 c.sl) (.int .i64 c.cp) (.int .i64 c.he) (.int .i64 c.ke) (.int .i64 c.ev) (.int .i64 c.la) (.slice A1 B1.cells.length cap1) (.int .i64 B1.count) (.int .i64 B1.last.kind) (.int .i64 B1.last.cell) (.int .u64 B1.last.via) (.int .u64 B1.last.old) (.int .u64 B1.last.new) (.bool B1.last.done)) (fun a n c e _ => NR.out a n c e), Gr.step (Gr.trans G0.out C102.out) (chg_put15 _ _ (.int .i64 c.th) (.int .i64 c.sl) (.int .i64 c.cp) (.int .i64 c.he) (.int .i64 c.ke) (.int .i64 c.ev) (.int .i64 c.la) (.slice A1 B1.cells.length cap1) (.int .i64 B1.count) (.int .i64 B1.last.kind) (.int .i64 B1.last.cell) (.int .u64 B1.last.via) (.int .u64 B1.last.old) (.int .u64 B1.last.new) (.bool B1.last.done)) (by rintro i rfl; exact RX.out.1), HF.out⟩
  · conv => arg 4; simp only [picked, List.filterMap_cons, List.filterMap_nil, List.getElem?_toArray, List.getElem?_cons_zero, List.getElem?_cons_succ]
    show wpList _ _ _ [_] _ _
    go_wp2_with fail
    have C106 : Hid (Gr w0 (wd.alloc (.cells #[.slice none 0 0, .int .i64 0, .int .i64 0, .int .i64 0, .int .u64 0, .int .u64 0, .int .u64 0, .bool false] 48))) := hid ((CD.out).alloc _)
    have B107 : Hid (Blk (wd.alloc (.cells #[.slice none 0 0, .int .i64 0, .int .i64 0, .int .i64 0, .int .u64 0, .int .u64 0, .int .u64 0, .bool false] 48)) wd.heap.size #[.slice none 0 0, .int .i64 0, .int .i64 0, .int .i64 0, .int .u64 0, .int .u64 0, .int .u64 0, .bool false] 48) := hid (Blk.new' (by simp))
    have BG : Hid (w0.heap.size ≤ wd.heap.size) := hid ((CD.out).size)
    refine ⟨C106.out, ?_⟩
    generalize (wd.alloc (.cells #[.slice none 0 0, .int .i64 0, .int .i64 0, .int .i64 0, .int .u64 0, .int .u64 0, .int .u64 0, .bool false] 48)) = w105 at *
    generalize hbe : wd.heap.size = b108 at *
    have BE := hid hbe
    clear hbe
    refine anyC_alone 5 C106.out (by kernel_rfl) (by kernel_rfl) ?_
    conv => arg 4; simp only [picked, List.filterMap_cons, List.filterMap_nil, List.getElem?_toArray, List.getElem?_cons_zero, List.getElem?_cons_succ]
    show wpList _ _ _ [_] _ _
    go_wp2_with fail
    refine (hce.out _ (HV.out.gr (Gr.trans G0.out C106.out))).mono ?_
    rintro e w109 ⟨rfl, gw109⟩
    have C110 := hid (Gr.trans C106.out gw109)
    have B111 := hid (Blk.gr B107.out gw109)
    clear gw109
    go_wp2_with fail
    refine ⟨C110.out, ?_⟩
    refine anyC_alone 7 C110.out (by kernel_rfl) (by kernel_rfl) ?_
    conv => arg 4; simp only [picked, List.filterMap_cons, List.filterMap_nil, List.getElem?_toArray, List.getElem?_cons_zero, List.getElem?_cons_succ]
    show wpList _ _ _ [_] _ _
    go_wp2_with fail
    refine (hpl.out _).mono ?_
    rintro e w112 ⟨rfl, gw112⟩
    have C113 := hid (Gr.trans C110.out gw112)
    have B114 := hid (Blk.gr B111.out gw112)
    clear gw112
    go_wp2_with fail
    refine ⟨C113.out, ?_⟩
    refine anyC_alone 10 C113.out (by kernel_rfl) (by kernel_rfl) ?_
    conv => arg 4; simp only [picked, List.filterMap_cons, List.filterMap_nil, List.getElem?_toArray, List.getElem?_cons_zero, List.getElem?_cons_succ]
    show wpList _ _ _ [_] _ _
    go_wp2_with fail
    refine (hdo.out _ (HV.out.gr (Gr.trans G0.out C113.out))).mono ?_
    rintro e w115 ⟨s1, rfl, hw1, gw115, hf1⟩
    have C116 := hid (Gr.trans C113.out gw115)
    have B117 := hid (Blk.gr B114.out gw115)
    obtain ⟨A1, cap1, rfl⟩ := hw1.slice
    have HW := hid hw1
    have NR := hid (hf1.apart (w1 := w) (w0 := w) HV.out r RX.out.1 (by have := C113.out.size; have := RL.out; have := RX.out; first | omega | (simp; omega)) HN.out)
    have NB := hid (hf1.apart (w1 := w) (w0 := w) HV.out b108 (by have := BG.out; have := RX.out; omega) (by have := B114.out.lt; first | omega | (simp; omega)) HN.out)
    have HF := hid (Fresh.mono hf1 (Gr.trans G0.out C113.out).size)
    clear hw1 hf1
    unfold rval
    clear gw115
    go_wp2_with fail
    refine ⟨C116.out, ?_⟩
    refine anyC_quiet (a1 := ?a118) (by kernel_rfl) 2 [11, 12, 13] _ _ _ (by kernel_rfl) (by kernel_rfl) C116.out ?_ ?_
    rotate_left
    · intro w' g'
      have hne : Nonempty (St (· = w')) := ⟨⟨w', rfl⟩⟩
      clear g'
      conv => arg 5; simp only [picked, List.filterMap_cons, List.filterMap_nil, List.getElem?_toArray, List.getElem?_cons_zero, List.getElem?_cons_succ]
      show wpQuiet _ _ _ _ [_, _, _] _
      repeat (go_big_quiet_step (fail))
      refine wpQuiet_nil ?_
      rfl
    have hbl := B117.out.lt
    have hbf := fun i => Blk.free B117.out i
    obtain ⟨z0, z1, z2, z3, z4, z5, z6, z7⟩ := cells8 (B117.out)
    refine anyC_alone 15 C116.out (by kernel_rfl) (by kernel_rfl) ?_
    conv => arg 4; simp only [picked, List.filterMap_cons, List.filterMap_nil, List.getElem?_toArray, List.getElem?_cons_zero, List.getElem?_cons_succ]
    show wpList _ _ _ [_] _ _
    go_wp2_with fail
    have B121 := hid (blk_put8 B117.out (.slice A1 B1.cells.length cap1) (.int .i64 B1.count) (.int .i64 B1.last.kind) (.int .i64 B1.last.cell) (.int .u64 B1.last.via) (.int .u64 B1.last.old) (.int .u64 B1.last.new) (.bool B1.last.done))
    have HC := hid (chg_put8 w115 b108 (.slice A1 B1.cells.length cap1) (.int .i64 B1.count) (.int .i64 B1.last.kind) (.int .i64 B1.last.cell) (.int .u64 B1.last.via) (.int .u64 B1.last.old) (.int .u64 B1.last.new) (.bool B1.last.done))
    have C120 : Hid (Gr w0 ((((((((w115.setCell ⟨b108, 0, none⟩ (.slice A1 B1.cells.length cap1)).setCell ⟨b108, 1, none⟩ (.int .i64 B1.count)).setCell ⟨b108, 2, none⟩ (.int .i64 B1.last.kind)).setCell ⟨b108, 3, none⟩ (.int .i64 B1.last.cell)).setCell ⟨b108, 4, none⟩ (.int .u64 B1.last.via)).setCell ⟨b108, 5, none⟩ (.int .u64 B1.last.old)).setCell ⟨b108, 6, none⟩ (.int .u64 B1.last.new)).setCell ⟨b108, 7, none⟩ (.bool B1.last.done))) := hid ((C116.out).step HC.out (by rintro i rfl; exact BG.out))
    have HW2 := hid (HW.out.keep HC.out (fun a n c e _ => NB.out a n c e))
    clear z0 z1 z2 z3 z4 z5 z6 z7 hbl hbf
    generalize ((((((((w115.setCell ⟨b108, 0, none⟩ (.slice A1 B1.cells.length cap1)).setCell ⟨b108, 1, none⟩ (.int .i64 B1.count)).setCell ⟨b108, 2, none⟩ (.int .i64 B1.last.kind)).setCell ⟨b108, 3, none⟩ (.int .i64 B1.last.cell)).setCell ⟨b108, 4, none⟩ (.int .u64 B1.last.via)).setCell ⟨b108, 5, none⟩ (.int .u64 B1.last.old)).setCell ⟨b108, 6, none⟩ (.int .u64 B1.last.new)).setCell ⟨b108, 7, none⟩ (.bool B1.last.done)) = w119 at *
    refine ⟨C120.out, ?_⟩
    refine anyC_quiet (a1 := ?a122) (by kernel_rfl) 0 [16] _ _ _ (by kernel_rfl) (by kernel_rfl) C120.out ?_ ?_
    rotate_left
    · intro w' g'
      have hne : Nonempty (St (· = w')) := ⟨⟨w', rfl⟩⟩
      clear g'
      conv => arg 5; simp only [picked, List.filterMap_cons, List.filterMap_nil, List.getElem?_toArray, List.getElem?_cons_zero, List.getElem?_cons_succ]
      show wpQuiet _ _ _ _ [_] _
      repeat (go_big_quiet_step (fail))
      refine wpQuiet_nil ?_
      rfl
    refine ⟨by kernel_rfl, ?_⟩
    have XX := hid (AX.out.gr C120.out)
    have RR := hid (AR.out.gr C120.out)
    obtain ⟨x0, x1, x2, x3, x4, x5, x6, -⟩ := cells15 (XX.out)
    obtain ⟨y0, y1, y2, y3, y4, y5, y6, y7⟩ := cells8 (B121.out)
    obtain ⟨q0, q1, q2, q3, q4, q5, q6, q7, q8, q9, q10, q11, q12, q13, q14⟩ := cells15 (RR.out)
    have rl := RR.out.lt
    have rf := fun i => Blk.free RR.out i
    go_wp2_with fail
    refine bodyPost_ret (v := .tuple #[mval c (.slice A1 B1.cells.length cap1) B1, .bool B1.last.done]) (res71 _ r _ c (.slice A1 B1.cells.length cap1) B1 ⟨_, _, _, rfl⟩ rfl _ rfl ?_) rfl ?_
    · exact blk_put15 RR.out (.int .i64 c.th) (.int .i64 c.sl) (.int .i64 c.cp) (.int .i64 c.he) (.int .i64 c.ke) (.int .i64 c.ev) (.int .i64 c.la) (.slice A1 B1.cells.length cap1) (.int .i64 B1.count) (.int .i64 B1.last.kind) (.int .i64 B1.last.cell) (.int .u64 B1.last.via) (.int .u64 B1.last.old) (.int .u64 B1.last.new) (.bool B1.last.done)
    · exact ⟨_, rfl, HW2.out.keep (chg_put15 _ _ (.int .i64 c.th) (.int .i64 c.sl) (.int .i64 c.cp) (.int .i64 c.he) (.int .i64 c.ke) (.int .i64 c.ev) (.int .i64 c.la) (.slice A1 B1.cells.length cap1) (.int .i64 B1.count) (.int .i64 B1.last.kind) (.int .i64 B1.last.cell) (.int .u64 B1.last.via) (.int .u64 B1.last.old) (.int .u64 B1.last.new) (.bool B1.last.done)) (fun a n c e _ => NR.out a n c e), Gr.step (Gr.trans G0.out C120.out) (chg_put15 _ _ (.int .i64 c.th) (.int .i64 c.sl) (.int .i64 c.cp) (.int .i64 c.he) (.int .i64 c.ke) (.int .i64 c.ev) (.int .i64 c.la) (.slice A1 B1.cells.length cap1) (.int .i64 B1.count) (.int .i64 B1.last.kind) (.int .i64 B1.last.cell) (.int .u64 B1.last.via) (.int .u64 B1.last.old) (.int .u64 B1.last.new) (.bool B1.last.done)) (by rintro i rfl; exact RX.out.1), HF.out⟩
end Go.Proofs.YthbkncklliiooaaH
