/-
  The walk of the statement that each access of any script tells what the document says.
-/
import Derived.Test.YtojlaekckkelhaaBk
import Derived.Laws.StructEq
import Derived.BigQuiet
import Derived.Test.YtojlaekckkelhaaReg
namespace Go.Proofs.Ytojlaekckkelhaa
set_option linter.unusedVariables false
set_option linter.unusedSimpArgs false
open Go.RowKit

/-- An access of a script. -/
structure Opq where
  k : Int
  c : Int
  via : Int
  old : Int
  v : Int
deriving Inhabited

/-- A script in memory. -/
def Ops (w : World) (v : Value) (L : List Opq) : Prop :=
  ∃ (a : Option Addr) (cap : Nat), v = .slice a L.length cap ∧ L.length ≤ cap ∧ ∀ i, i < L.length → ∃ ad, a = some ad ∧
    w.cell? (ad.add (i * 5)) = some (.int .i64 (L.getD i default).k) ∧ w.cell? (ad.add (i * 5 + 1)) = some (.int .i64 (L.getD i default).c) ∧
    w.cell? (ad.add (i * 5 + 2)) = some (.int .u64 (L.getD i default).via) ∧ w.cell? (ad.add (i * 5 + 3)) = some (.int .u64 (L.getD i default).old) ∧ w.cell? (ad.add (i * 5 + 4)) = some (.int .u64 (L.getD i default).v)

theorem Ops.gr {w w' : World} {v : Value} {L : List Opq} (h : Ops w v L) (g : Gr w w') : Ops w' v L := by
  obtain ⟨a, cap, e, hc, h⟩ := h
  refine ⟨a, cap, e, hc, fun i hi => ?_⟩
  obtain ⟨ad, ea, h0, h1, h2, h3, h4⟩ := h i hi
  exact ⟨ad, ea, g.cell h0, g.cell h1, g.cell h2, g.cell h3, g.cell h4⟩

theorem cell_next {w : World} {ad : Addr} {n j : Nat} {v : Value} (h : w.cell? (ad.add (n + (j + 1))) = some v) : w.cell? ⟨(ad.add n).block, (ad.add n).off + (j + 1), none⟩ = some v := by
  have e : ad.add (n + (j + 1)) = ⟨(ad.add n).block, (ad.add n).off + (j + 1), none⟩ := by
    unfold Addr.add
    rw [if_neg (by omega)]
    split
    · subst n; simp
    · simp [Nat.add_assoc]
  rw [← e]; exact h

theorem Blk.c8 {w : World} {x : Nat} {v0 v1 v2 v3 v4 v5 v6 v7 : Value} {t : TypeId} (h : Blk w x #[v0, v1, v2, v3, v4, v5, v6, v7] t) :
    w.cell? ⟨x, 0, none⟩ = some v0 ∧ w.cell? ⟨x, 1, none⟩ = some v1 ∧ w.cell? ⟨x, 2, none⟩ = some v2 ∧ w.cell? ⟨x, 3, none⟩ = some v3 ∧ w.cell? ⟨x, 4, none⟩ = some v4 ∧ w.cell? ⟨x, 5, none⟩ = some v5 ∧ w.cell? ⟨x, 6, none⟩ = some v6 ∧ w.cell? ⟨x, 7, none⟩ = some v7 :=
  ⟨h.cell rfl, h.cell rfl, h.cell rfl, h.cell rfl, h.cell rfl, h.cell rfl, h.cell rfl, h.cell rfl⟩

theorem at_world {P : Program} {c : Code} {Q : Exit → Act → World → Prop} {a : Act} {W : World} (F : World → Prop) (hF : F W) (h : ∀ W', F W' → c.wp P Q a W') : c.wp P Q a W := h W hF

set_option maxHeartbeats 2000000 in
theorem all_any (a0 : Value) (l : List Int) (b0 : Value) (L : List Opq) (w : World) (hv : Words w a0 l) (hl : l.length ≤ 17592186044416) (ho : Ops w b0 L) :
    Calls Try.prog 10 #[a0, b0] w fun e w' => e = .returned (.bool true) ∧ Gr w w' := by
  obtain ⟨a, cap, rfl⟩ := hv.slice
  have HO0 := hid ho
  obtain ⟨b, bcap, rfl, hbc, hob⟩ := ho
  have HO := hid hob
  have HV := hid hv
  clear hv hob
  by_cases h : (50 : Int) < l.length
  · go_enter Try.func10, Try.ntmps10
    go_wp2_with (go_at_call 30; refine (alive_bank _).mono ?_; rintro e w2 ⟨rfl, g2⟩)
    go_ret
    exact ⟨rfl, g2⟩
  by_cases h' : (100 : Int) < L.length
  · go_enter Try.func10, Try.ntmps10
    go_wp2_with (go_at_call 30; refine (alive_bank _).mono ?_; rintro e w2 ⟨rfl, g2⟩)
    go_ret
    exact ⟨rfl, g2⟩
  have hl5 : l.length ≤ 50 := by omega
  clear hl
  go_enter Try.func10, Try.ntmps10
  go_wp2_with fail
  refine (of_any _ l _ HV.out (by omega)).mono ?_
  rintro e w1 ⟨p, q, rfl, b1, g1, hp, hq⟩
  have HB1 := hid b1
  have HG1 := hid g1
  clear b1 g1
  go_wp2_with fail
  refine (rof_any _ l _ (HV.out.gr HG1.out) (by omega)).mono ?_
  rintro e w2 ⟨s, rfl, hs, g2, hsf⟩
  obtain ⟨sa, scap, rfl⟩ := hs.slice
  have hpl := HB1.out.head.lt
  have hql := HB1.out.row.lt
  have HG2 := hid (HG1.out.trans g2)
  have HB2 := hid (HB1.out.gr g2)
  have HS := hid hs
  have HF := hid hsf
  have g2s := g2.size
  clear HB1 HG1 hs g2 hsf
  unfold rval Acc.zero
  go_wp2
  go_loopw [31] (fun i wr => ∃ (k : Nat) (B : Bk) (sb : Option Addr) (sc : Nat), k ≤ L.length ∧ i = .int .i64 k ∧ B.cells.length ≤ 50 ∧ IsBank wr p q B ∧ Words wr (.slice sb B.cells.length sc) B.cells ∧
    (∀ ad, sb = some ad → ad.block ≠ p ∧ ad.block ≠ q ∧ ad.block ≠ w2.heap.size) ∧ Blk wr w2.heap.size #[.slice sb B.cells.length sc, .int .i64 B.count, .int .i64 B.last.kind, .int .i64 B.last.cell, .int .u64 B.last.via, .int .u64 B.last.old, .int .u64 B.last.new, .bool B.last.done] 42 ∧ Gr w wr) (fun i _ => L.length - (intOf i).toNat)
  case atStart =>
    refine ⟨0, ⟨l, 0, Acc.zero⟩, sa, scap, Nat.zero_le _, rfl, hl5, ?_, ?_, ?_, ?_, ?_⟩
    · exact HB2.out.chg (F := (· = w2.heap.size)) (Gr.chg (by repeat (first | (with_reducible exact Gr.refl _) | (with_reducible refine Gr.drew ?_) | (with_reducible refine Gr.alloc ?_ _) | ((with_reducible refine Gr.setCell ?_ ?_ _); rotate_left; focus (simp <;> omega))))) (by omega) (by omega)
    · exact HS.out.gr (by repeat (first | (with_reducible exact Gr.refl _) | (with_reducible refine Gr.drew ?_) | (with_reducible refine Gr.alloc ?_ _) | ((with_reducible refine Gr.setCell ?_ ?_ _); rotate_left; focus (simp <;> omega))))
    · rintro ad rfl
      obtain ⟨h1, h2⟩ := HF.out _ _ _ rfl
      exact ⟨by omega, by omega, by omega⟩
    · exact Blk.new _ _ _
    · exact HG2.out.trans (by repeat (first | (with_reducible exact Gr.refl _) | (with_reducible refine Gr.drew ?_) | (with_reducible refine Gr.alloc ?_ _) | ((with_reducible refine Gr.setCell ?_ ?_ _); rotate_left; focus (simp <;> omega))))
  case round =>
    obtain ⟨k, B, sb, sc, hk, rfl, hB5, hB, hS, hap, hX, hG⟩ := hrel
    by_cases hlt : k < L.length
    · obtain ⟨ad, rfl, o0, o1, o2, o3, o4⟩ := HO.out k hlt
      obtain ⟨⟨ok, oc, ovia, oold, ov⟩, eo⟩ : ∃ o, L.getD k default = o := ⟨_, rfl⟩
      rw [eo] at o0 o1 o2 o3 o4
      clear eo
      dsimp only at o0 o1 o2 o3 o4
      replace o0 := hG.cell o0
      replace o1 := cell_next (hG.cell o1)
      replace o2 := cell_next (hG.cell o2)
      replace o3 := cell_next (hG.cell o3)
      replace o4 := cell_next (hG.cell o4)
      have hlt' : (k : Int) < L.length := by omega
      have hk0 : 0 ≤ (k : Int) := by omega
      have HB := hid hB
      have HSS := hid hS
      have HX := hid hX
      have HG := hid hG
      have HA := hid hap
      clear hB hS hX hG hap
      go_wp2_with fail
      refine (does_any p q B ok oc ovia oold ov _ (HB.out.gr ((Gr.refl _).alloc _))).mono ?_
      obtain ⟨hlen, -⟩ := does_others B ok oc ovia oold ov
      have hmod := fun w s hv => model_any s B ok oc ovia oold ov w hv (by omega)
      have HMD := hid hmod
      clear hmod
      generalize B.does ok oc ovia oold ov = B1 at *
      generalize B.doesIs ok oc ovia oold ov = is at *
      generalize B.doesV ok oc ovia oold ov = r at *
      rintro e w3 ⟨rfl, b1, c1⟩
      have hsl := HX.out.lt
      have hwl := HG.out.size
      have c1' : Chg (Two p q) wr w3 := (Gr.chg ((Gr.refl wr).alloc _)).trans c1
      have y0 := c1.cell (a := ⟨wr.heap.size, 0, none⟩) (v := .int .i64 ok) (by simp [go_sem]) (by rintro (h | h) <;> simp only at h <;> omega)
      have y1 := c1.cell (a := ⟨wr.heap.size, 1, none⟩) (v := .int .i64 oc) (by simp [go_sem]) (by rintro (h | h) <;> simp only at h <;> omega)
      have y2 := c1.cell (a := ⟨wr.heap.size, 2, none⟩) (v := .int .u64 ovia) (by simp [go_sem]) (by rintro (h | h) <;> simp only at h <;> omega)
      have y3 := c1.cell (a := ⟨wr.heap.size, 3, none⟩) (v := .int .u64 oold) (by simp [go_sem]) (by rintro (h | h) <;> simp only at h <;> omega)
      have y4 := c1.cell (a := ⟨wr.heap.size, 4, none⟩) (v := .int .u64 ov) (by simp [go_sem]) (by rintro (h | h) <;> simp only at h <;> omega)
      have X1 := HX.out.chg c1' (by rintro (h | h) <;> omega)
      have S1 := HSS.out.chg c1' (by
        rintro ad n c e
        cases e
        obtain ⟨h1, h2, h3⟩ := HA.out _ rfl
        rintro (h | h)
        · exact h1 h
        · exact h2 h)
      obtain ⟨x0, x1, x2, x3, x4, x5, x6, x7⟩ := X1.c8
      have HG3 := hid (HG.out.step c1' (by rintro i (rfl | rfl) <;> omega))
      have HX3 := hid X1
      have HB3 := hid b1
      have HS3 := hid S1
      have HLEN := hid hlen
      have s3 : wr.heap.size ≤ w3.heap.size := c1'.size
      clear X1 S1 b1 c1 c1' hlen o0 o1 o2 o3 o4 HB HSS HX
      have hmv : w2.heap.size < w3.heap.size := by omega
      go_wp2_with fail
      refine (HMD.out _ (.slice sb B.cells.length sc) HS3.out).mono ?_
      rintro e w4 ⟨s', rfl, S2, g4, hfr⟩
      obtain ⟨sa', sc', rfl⟩ := S2.slice
      have X2 := HX3.out.gr g4
      have HX4 := hid X2
      have HS4 := hid S2
      have HG4 := hid g4
      have HFR := hid hfr
      have xf := X2.free
      have s4 : w3.heap.size ≤ w4.heap.size := g4.size
      have hmv4 : w2.heap.size < w4.heap.size := by omega
      have hmv4' : w2.heap.size < w4.heap.size + 1 := by omega
      clear x0 x1 x2 x3 x4 x5 x6 x7
      obtain ⟨x0, x1, x2, x3, x4, x5, x6, x7⟩ := X2.c8
      clear X2 S2 g4 hfr
      unfold rval
      have hr : (r != r) = false := by simp
      have his : (is != is) = false := by simp
      go_wp2_with fail
      refine at_world (fun W => Blk W w2.heap.size #[.slice sa' B1.cells.length sc', .int .i64 B1.count, .int .i64 B1.last.kind, .int .i64 B1.last.cell, .int .u64 B1.last.via, .int .u64 B1.last.old, .int .u64 B1.last.new, .bool B1.last.done] 42 ∧ Chg (· = w2.heap.size) w4 W) ⟨?_, ?_⟩ ?_
      · refine Blk.of_eq (c := (((((((((#[.slice sb B.cells.length sc, .int .i64 B.count, .int .i64 B.last.kind, .int .i64 B.last.cell, .int .u64 B.last.via, .int .u64 B.last.old, .int .u64 B.last.new, .bool B.last.done] : Array Value).setIfInBounds 0 (.slice sa' B1.cells.length sc')).setIfInBounds 1 (.int .i64 B1.count)).setIfInBounds 2 (.int .i64 B1.last.kind)).setIfInBounds 3 (.int .i64 B1.last.cell)).setIfInBounds 4 (.int .u64 B1.last.via)).setIfInBounds 5 (.int .u64 B1.last.old)).setIfInBounds 6 (.int .u64 B1.last.new)).setIfInBounds 7 (.bool B1.last.done))) ?hx ?ex
        case hx => repeat (first | (with_reducible exact HX4.out) | (with_reducible refine Blk.set ?_ _ _) | (with_reducible refine Blk.drew ?_) | (with_reducible refine Blk.alloc ?_ _) | ((with_reducible refine Blk.set_other ?_ ?_ _); rotate_left; focus (simp <;> omega)))
        case ex => rfl
      · repeat (first | (with_reducible exact Chg.refl _ _) | (with_reducible refine Chg.drew ?_) | (with_reducible refine Chg.alloc ?_ _) | ((with_reducible refine Chg.setCell ?_ ?_ _); rotate_left; focus (first | exact .inl rfl | (refine .inr ?_; simp <;> omega))))
      rintro w5 ⟨X5, c5⟩
      have s5 := c5.size
      have HB5 := hid ((HB3.out.gr HG4.out).chg c5 (by omega) (by omega))
      have HS5 := hid (HS4.out.chg c5 (by
        rintro b n c e
        cases e
        rcases HFR.out with h | h
        · injection h with h1
          have := HA.out _ h1.symm
          exact this.2.2
        · have := h _ _ _ rfl
          omega))
      have HA5 : Hid (∀ ad, sa' = some ad → ad.block ≠ p ∧ ad.block ≠ q ∧ ad.block ≠ w2.heap.size) := hid (by
        rintro ad rfl
        rcases HFR.out with h | h
        · injection h with h1
          exact HA.out _ h1.symm
        · have := h _ _ _ rfl
          exact ⟨by omega, by omega, by omega⟩)
      have HX5 := hid X5
      have HG5 := hid ((HG3.out.trans HG4.out).step c5 (by rintro i rfl; omega))
      have hl5' : B1.cells.length ≤ 50 := by rw [HLEN.out]; exact hB5
      have p5 : p < w5.heap.size := by omega
      have q5 : w2.heap.size < w5.heap.size := by omega
      clear x0 x1 x2 x3 x4 x5 x6 x7 y0 y1 y2 y3 y4 xf HB3 HG4 c5 HS4 HFR HA HG3 X5 HX4 HX3 HS3 HMD s3 s4 hmv hmv4 hmv4'
      obtain ⟨x0, x1, x2, x3, x4, x5, x6, x7⟩ := HX5.out.c8
      have hne : Nonempty (St (Gr w5)) := ⟨⟨w5, Gr.refl _⟩⟩
      have X : ∀ s : St (Gr w5), s.val.cell? ⟨w2.heap.size, 0, none⟩ = some (.slice sa' B1.cells.length sc') ∧ s.val.cell? ⟨w2.heap.size, 1, none⟩ = some (.int .i64 B1.count) := fun s => ⟨s.ok.cell x0, s.ok.cell x1⟩
      have y0 := fun s => (X s).1
      have y1 := fun s => (X s).2
      have y2 : ∀ s : St (Gr w5), s.val.cell? ⟨w2.heap.size, 2, none⟩ = some (.int .i64 B1.last.kind) := fun s => s.ok.cell x2
      have y3 : ∀ s : St (Gr w5), s.val.cell? ⟨w2.heap.size, 3, none⟩ = some (.int .i64 B1.last.cell) := fun s => s.ok.cell x3
      have y4 : ∀ s : St (Gr w5), s.val.cell? ⟨w2.heap.size, 4, none⟩ = some (.int .u64 B1.last.via) := fun s => s.ok.cell x4
      have y5 : ∀ s : St (Gr w5), s.val.cell? ⟨w2.heap.size, 5, none⟩ = some (.int .u64 B1.last.old) := fun s => s.ok.cell x5
      have y6 : ∀ s : St (Gr w5), s.val.cell? ⟨w2.heap.size, 6, none⟩ = some (.int .u64 B1.last.new) := fun s => s.ok.cell x6
      have y7 : ∀ s : St (Gr w5), s.val.cell? ⟨w2.heap.size, 7, none⟩ = some (.bool B1.last.done) := fun s => s.ok.cell x7
      clear X x0 x1 x2 x3 x4 x5 x6 x7
      refine wp_region_anyC (n := 30) (fun w' => ∃ s : St (Gr w5), w' = s.val) (by kernel_rfl) rfl ?_
      refine anyC_quiet (by kernel_rfl) 18 [0, 1, 2, 3, 4, 5, 6, 7, 8, 9, 11, 12] _ _ _ (by kernel_rfl) ⟨⟨w5.drew, (Gr.refl w5).drew⟩, rfl⟩ ?_
      conv => arg 5; simp only [picked, List.filterMap_cons, List.filterMap_nil, List.getElem?_toArray, List.getElem?_cons_zero, List.getElem?_cons_succ]
      show wpQuiet _ _ _ _ [_, _, _, _, _, _, _, _, _, _, _, _] _
      repeat (go_big_quiet_step (fail))
      refine wpQuiet_nil ?_
      refine anyC_call 10 59 33 #[.pointer (some ⟨p, 0, none⟩)] rfl (by kernel_rfl) (by kernel_rfl) (by kernel_rfl) (by kernel_rfl) ?_
      refine (cells_any p q B1 _ (HB5.out.gr (Gr.refl w5).drew) (by omega)).mono ?_
      rintro e w6 ⟨rfl, hm, g6⟩
      refine ⟨_, rfl, ⟨⟨w6, (Gr.refl w5).drew.trans g6⟩, rfl⟩, ?_⟩
      refine anyC_call 13 62 32 #[.slice (some ⟨w5.heap.size, 0, none⟩) B1.cells.length B1.cells.length, .slice sa' B1.cells.length sc'] rfl (by kernel_rfl) (by kernel_rfl) (by kernel_rfl) (by kernel_rfl) ?_
      refine (same_yes _ _ B1.cells _ (Blk.words hm) (HS5.out.gr ((Gr.refl w5).drew.trans g6)) (by omega)).mono ?_
      rintro e w7 ⟨rfl, g7⟩
      have h7 : Gr w5 w7 := ((Gr.refl w5).drew.trans g6).trans g7
      refine ⟨_, rfl, ⟨⟨w7, h7⟩, rfl⟩, ?_⟩
      refine anyC_quiet (by kernel_rfl) 10 [14, 15, 16, 17, 19, 20] _ _ _ (by kernel_rfl) ⟨⟨w7, h7⟩, rfl⟩ ?_
      conv => arg 5; simp only [picked, List.filterMap_cons, List.filterMap_nil, List.getElem?_toArray, List.getElem?_cons_zero, List.getElem?_cons_succ]
      conv => arg 6; simp only [Act.put, List.setIfInBounds_toArray, List.set_cons_succ, List.set_cons_zero]
      show wpQuiet _ _ _ _ [_, _, _, _, _, _] ⟨List.toArray _, []⟩
      repeat (go_big_quiet_step (fail))
      refine wpQuiet_nil ?_
      refine anyC_call 18 67 35 #[.pointer (some ⟨p, 0, none⟩)] rfl (by kernel_rfl) (by kernel_rfl) (by kernel_rfl) (by kernel_rfl) ?_
      refine (count_any p q B1 _ (HB5.out.gr h7)).mono ?_
      rintro e w8 ⟨rfl, rfl⟩
      refine ⟨_, rfl, ⟨⟨w7, h7⟩, rfl⟩, ?_⟩
      refine anyC_quiet (by kernel_rfl) 3 [21, 22, 23, 24, 26, 27] _ _ _ (by kernel_rfl) ⟨⟨w7, h7⟩, rfl⟩ ?_
      conv => arg 5; simp only [picked, List.filterMap_cons, List.filterMap_nil, List.getElem?_toArray, List.getElem?_cons_zero, List.getElem?_cons_succ]
      conv => arg 6; simp only [Act.put, List.setIfInBounds_toArray, List.set_cons_succ, List.set_cons_zero]
      show wpQuiet _ _ _ _ [_, _, _, _, _, _] ⟨List.toArray _, []⟩
      repeat (go_big_quiet_step (fail))
      refine wpQuiet_nil ?_
      refine anyC_call 25 74 36 #[.pointer (some ⟨p, 0, none⟩)] rfl (by kernel_rfl) (by kernel_rfl) (by kernel_rfl) (by kernel_rfl) ?_
      refine (last_any p q B1 _ (HB5.out.gr h7)).mono ?_
      rintro e w8 ⟨rfl, g8⟩
      have h8 : Gr w5 w8 := h7.trans g8
      unfold Acc.val
      refine ⟨_, rfl, ⟨⟨w8, h8⟩, rfl⟩, ?_⟩
      refine anyC_quiet (by kernel_rfl) 0 [28, 29] _ _ _ (by kernel_rfl) ⟨⟨w8, h8⟩, rfl⟩ ?_
      conv => arg 5; simp only [picked, List.filterMap_cons, List.filterMap_nil, List.getElem?_toArray, List.getElem?_cons_zero, List.getElem?_cons_succ]
      conv => arg 6; simp only [Act.put, List.setIfInBounds_toArray, List.set_cons_succ, List.set_cons_zero]
      show wpQuiet _ _ _ _ [_, _] ⟨List.toArray _, []⟩
      repeat (go_big_quiet_step (fail))
      refine wpQuiet_nil ?_
      refine ⟨by kernel_rfl, ?_⟩
      show Exit.then _ _ Exit.normal _ _
      have b8 := HB5.out.gr h8
      have s8 := HS5.out.gr h8
      have x8 := HX5.out.gr h8
      have gg := HG5.out.trans h8
      go_wp2_with fail
      go_roundw
      case rel => exact ⟨k + 1, B1, sa', sc', by omega, by go_num, hl5', b8, s8, HA5.out, x8, gg⟩
      case measure => simp [intOf]; omega
    · have hge : ¬ (k : Int) < L.length := by omega
      go_wp2_with (go_at_call 30; refine (alive_bank _).mono ?_; rintro e w5 ⟨rfl, g5⟩)
      go_ret
      exact ⟨rfl, hG.trans g5⟩
end Go.Proofs.Ytojlaekckkelhaa
