/-
  Nodes that may be laid, and the words of a world that is laid.
-/
import Derived.Test.YthbkncklliiooaaHn
import Derived.Test.YthbkncklliiooaaHt
import Derived.Test.YthbkncklliiooaaQx23
import Derived.Test.YthbkncklliiooaaQx25
import Derived.Test.YthbkncklliiooaaHv
import Derived.Deep.Fields
import Derived.Deep.Slices
import Derived.Test.YthbkncklliiooaaOpen
import Derived.Test.YthbkncklliiooaaProg
import Derived.Test.YthbkncklliiooaaQx0
import Derived.Deep.Grids
namespace Go.Proofs.YthbkncklliiooaaH
set_option linter.unusedVariables false
set_option linter.unusedSimpArgs false
open Go.RowKit Go.Proofs.YthbkncklliiooaaW.PrintWords Go.Proofs.YthbkncklliiooaaW.PrintLast Go.Proofs.YthbkncklliiooaaW.PrintMore Go.Proofs.Ythbkncklliiooaa.Q

/-- A node that may be laid. -/
def NodeOk (c : Cf) (n : S69) : Prop := 1 ≤ n.f2 ∧ n.f2 ≤ c.he ∧ 0 ≤ n.f3 ∧ n.f3 ≤ n.f2
structure NodesOk (c : Cf) (ns : List S69) : Prop where
  ok : c.Ok
  room : (ns.length : Int) ≤ c.cp
  each : ∀ i : Nat, i < ns.length → NodeOk c (rd_T69 ns i)


theorem right_j2t (c : Cf) (ns : List S69) (k : Nat) (i : Int) : stepstoneref11_Right.j2 (k + 1) ns i true c.th c.sl c.cp c.he c.ke c.ev c.la = some false := by
  rw [stepstoneref11_Right.j2, if_pos rfl]

theorem right_l0 (c : Cf) (ns : List S69) (hl : ns.length ≤ 9223372036854775807) : ∀ (d i : Nat), i + d = ns.length →
    ∃ b, stepstoneref11_Right.l0 (2 * d + 1) ns (i : Int) c.th c.sl c.cp c.he c.ke c.ev c.la = some b ∧ (b = true → ∀ j : Nat, i ≤ j → j < ns.length → NodeOk c (rd_T69 ns j))
  | 0, i, h => by
    rw [stepstoneref11_Right.l0, if_neg (by omega)]
    exact ⟨true, rfl, fun _ j h1 h2 => absurd h1 (by omega)⟩
  | d + 1, i, h => by
    obtain ⟨b, hb, hp⟩ := right_l0 c ns hl d (i + 1) (by omega)
    have T := right_j2t c ns (2 * d + 1) (i : Int)
    have F : NodeOk c (rd_T69 ns i) → ∀ x : Bool, ∃ b, stepstoneref11_Right.j2 (2 * d + 1 + 1) ns (i : Int) x c.th c.sl c.cp c.he c.ke c.ev c.la = some b ∧ (b = true → ∀ j : Nat, i ≤ j → j < ns.length → NodeOk c (rd_T69 ns j)) := by
      intro hn x
      cases x
      · rw [stepstoneref11_Right.j2, if_neg (by simp)]
        have e1 : wrap64 ((i : Int) + 1) = ((i + 1 : Nat) : Int) := by rw [w64 (by omega) (by omega)]; omega
        have rest : ∃ b, stepstoneref11_Right.l0 (2 * d + 1) ns (wrap64 ((i : Int) + 1)) c.th c.sl c.cp c.he c.ke c.ev c.la = some b ∧ (b = true → ∀ j : Nat, i ≤ j → j < ns.length → NodeOk c (rd_T69 ns j)) := by
          rw [e1]
          refine ⟨b, hb, fun hb' j h1 h2 => ?_⟩
          by_cases e : j = i
          · subst e; exact hn
          · exact hp hb' j (by omega) h2
        by_cases h0 : (i : Int) > 0
        · have e2 : wrap64 ((i : Int) - 1) = (i : Int) - 1 := w64 (by omega) (by omega)
          rw [if_pos h0, if_pos (by omega), if_pos (by omega), if_pos (by omega), if_pos (by omega)]
          by_cases h3 : (rd_T69 ns (wrap64 ((i : Int) - 1))).f0 ≥ (rd_T69 ns (i : Int)).f0
          · rw [if_pos h3]; exact ⟨false, rfl, fun e => by cases e⟩
          · rw [if_neg h3]; exact rest
        · rw [if_neg h0]; exact rest
      · exact ⟨false, T, fun e => by cases e⟩
    have bad : ∃ b, stepstoneref11_Right.j2 (2 * d + 1 + 1) ns (i : Int) true c.th c.sl c.cp c.he c.ke c.ev c.la = some b ∧ (b = true → ∀ j : Nat, i ≤ j → j < ns.length → NodeOk c (rd_T69 ns j)) := ⟨false, T, fun e => by cases e⟩
    rw [show 2 * (d + 1) + 1 = 2 * d + 1 + 1 + 1 by omega, stepstoneref11_Right.l0, if_pos (by omega), if_pos (by omega)]
    by_cases a1 : (rd_T69 ns (i : Int)).f2 < 1
    · rw [if_pos a1]; exact bad
    rw [if_neg a1]
    by_cases a2 : (rd_T69 ns (i : Int)).f2 > c.he
    · rw [if_pos a2]; exact bad
    rw [if_neg a2]
    by_cases a3 : (rd_T69 ns (i : Int)).f3 < 0
    · rw [if_pos a3]; exact bad
    rw [if_neg a3]
    by_cases a4 : (rd_T69 ns (i : Int)).f3 > (rd_T69 ns (i : Int)).f2
    · rw [if_pos a4]; exact bad
    rw [if_neg a4]
    have hn : NodeOk c (rd_T69 ns (i : Int)) := ⟨by omega, by omega, by omega, by omega⟩
    by_cases a5 : (rd_T69 ns (i : Int)).f3 > 0
    · rw [if_pos a5]
      by_cases a6 : (rd_T69 ns (i : Int)).f4 = true
      · rw [if_pos a6]; exact F hn _
      · rw [if_neg a6]; exact bad
    · rw [if_neg a5]; exact F hn _

theorem right_nodes (c : Cf) (ns : List S69) (hl : ns.length ≤ 9223372036854775807) :
    ∃ b, stepstoneref11_Right.f (2 * ns.length + 2) c.th c.sl c.cp c.he c.ke c.ev c.la ns = some b ∧ (b = true → NodesOk c ns) := by
  unfold stepstoneref11_Right.f
  rw [ref_right_f, Option.bind_some]
  by_cases h : c.Ok
  · rw [if_pos (by simpa using h), show 2 * ns.length + 2 = 2 * ns.length + 1 + 1 by omega, stepstoneref11_Right.j0]
    by_cases h2 : (ns.length : Int) > c.cp
    · rw [if_pos (by simpa using h2)]; exact ⟨false, rfl, fun e => by cases e⟩
    · rw [if_neg (by simpa using h2)]
      obtain ⟨b, hb, hp⟩ := right_l0 c ns hl ns.length 0 (by omega)
      exact ⟨b, hb, fun e => ⟨h, by omega, fun i hi => hp e i (by omega) hi⟩⟩
  · rw [if_neg (by simpa using h), show 2 * ns.length + 2 = 2 * ns.length + 1 + 1 by omega, stepstoneref11_Right.j0, if_pos rfl]
    exact ⟨false, rfl, fun e => by cases e⟩

/-- The first node behind a place: a word without a mark. -/
theorem behind_l0 (ns : List S69) (hl : ns.length ≤ 64) (lv : Int) : ∀ (d i k : Nat), i + d = ns.length → d + 4 ≤ k →
    ∃ x, stepstoneref11_behind.l0 k ns lv (i : Int) = some x ∧ U64 x ∧ hM x = false
  | 0, i, k, h, hk => by
    obtain ⟨k, rfl⟩ : ∃ k', k = k' + 1 := ⟨k - 1, by omega⟩
    rw [stepstoneref11_behind.l0, if_neg (by omega)]
    exact ⟨0, rfl, ⟨by omega, by omega⟩, by decide⟩
  | d + 1, i, k, h, hk => by
    obtain ⟨k, rfl⟩ : ∃ k', k = k' + 1 := ⟨k - 1, by omega⟩
    have e1 : wrap64 ((i : Int) + 1) = ((i + 1 : Nat) : Int) := by rw [w64 (by omega) (by omega)]; omega
    rw [stepstoneref11_behind.l0, if_pos (by omega), if_pos (by omega), e1]
    by_cases ht : (rd_T69 ns (i : Int)).f2 > lv
    · rw [if_pos ht]
      obtain ⟨k, rfl⟩ : ∃ k', k = k' + 1 := ⟨k - 1, by omega⟩
      have hi : ((i + 1 : Nat) : Int) ≤ 64 := by omega
      have hi0 : 0 ≤ ((i + 1 : Nat) : Int) := by omega
      generalize ((i + 1 : Nat) : Int) = n at *
      refine ⟨9223372036854775808 + n, ?_, ⟨by omega, by omega⟩, ?_⟩
      · unfold stepstoneref01_Of.f stepstoneref01_Pack.f
        rw [if_neg (by omega), if_neg (by omega), if_neg (by omega)]
        simp only [stepstoneref01_Pack.j0]
        have e : IntKind.u64.wrap ((IntKind.u64.wrap (9223372036854775808 + (IntKind.u64.wrap (4294967296 * (IntKind.u64.wrap 0))))) + (IntKind.u64.wrap n)) = 9223372036854775808 + n := by
          have w : ∀ x : Int, IntKind.u64.wrap x = x % 18446744073709551616 := fun x => rfl
          simp only [w]; omega
        simp [e]
      · unfold hM
        exact decide_eq_false (by omega)
    · rw [if_neg ht]
      exact behind_l0 ns hl lv d (i + 1) k (by omega) (by omega)

theorem behind_f (ns : List S69) (hl : ns.length ≤ 64) (lv : Int) (i : Nat) (hi : i ≤ ns.length) (k : Nat) (hk : ns.length + 4 ≤ k) :
    ∃ x, stepstoneref11_behind.f k ns ((i : Int) - 1) lv = some x ∧ U64 x ∧ hM x = false := by
  unfold stepstoneref11_behind.f
  have e1 : wrap64 ((i : Int) - 1 + 1) = (i : Int) := by rw [w64 (by omega) (by omega)]; omega
  rw [e1]
  exact behind_l0 ns hl lv (ns.length - i) i k (by omega) (by omega)

theorem mark_f {x : Int} (h : U64 x) (hm : hM x = false) : ∃ y, stepstoneref01_Mark.f x = some y ∧ U64 y ∧ hM y = true := by
  obtain ⟨h0, h1⟩ := h
  have hm' : ¬ (x / 4611686018427387904 % 2 = 1) := of_decide_eq_false hm
  have w : ∀ x : Int, IntKind.u64.wrap x = x % 18446744073709551616 := fun x => rfl
  refine ⟨x + 4611686018427387904, ?_, ⟨by omega, by omega⟩, decide_eq_true (by omega)⟩
  unfold stepstoneref01_Mark.f stepstoneref01_Marked.f
  have e : (Int.tmod (IntKind.u64.wrap (Int.tdiv x 4611686018427387904)) 2 == 1) = false := by
    rw [w, Int.tdiv_eq_ediv_of_nonneg h0, Int.tmod_eq_emod_of_nonneg (by omega)]
    simp; omega
  rw [e, Option.bind_some, if_neg (by simp), w]
  congr 1
  omega

/-- What stands in a field's cell. -/
def fl (c : Cf) (l : List Int) (a b : Int) : Int := l.getD (c.cel a b).toNat 0
theorem fl_set {c : Cf} (hc : c.Ok) {l : List Int} (hl : (l.length : Int) = c.cells) {a b a' b' : Int} (ha : 0 ≤ a ∧ a ≤ c.cp) (hb : 0 ≤ b ∧ b < 6 + c.he) (ha' : 0 ≤ a' ∧ a' ≤ c.cp) (hb' : 0 ≤ b' ∧ b' < 6 + c.he) (v : Int) :
    fl c (l.set (c.cel a b).toNat v) a' b' = if a = a' ∧ b = b' then v else fl c l a' b' := by
  obtain ⟨b0, _⟩ := c.bounds hc
  obtain ⟨-, q1, q2⟩ := cel_yes c hc ha hb
  obtain ⟨-, r1, r2⟩ := cel_yes c hc ha' hb'
  unfold fl
  rw [getD_set]
  by_cases e : a = a' ∧ b = b'
  · obtain ⟨rfl, rfl⟩ := e
    rw [if_pos ⟨rfl, by omega⟩, if_pos ⟨rfl, rfl⟩]
  · rw [if_neg e, if_neg (fun q => e (cel_inj c (by omega) (by omega)))]

/-- The words behind some nodes laid. -/
structure Part (c : Cf) (ns : List S69) (i : Nat) (l : List Int) : Prop where
  len : (l.length : Int) = c.cells
  wd : ∀ x ∈ l, U64 x
  tall : ∀ k : Nat, k < i → fl c l (k + 1) 4 = (rd_T69 ns k).f2
  mark : ∀ k : Nat, k < i → ∀ j : Nat, (j : Int) < (rd_T69 ns k).f2 → hM (fl c l (k + 1) (6 + j)) = decide ((rd_T69 ns k).f2 - (rd_T69 ns k).f3 ≤ j)
structure PartN (c : Cf) (ns : List S69) (i j : Nat) (l : List Int) : Prop where
  tall : fl c l (i + 1) 4 = (rd_T69 ns i).f2
  mark : ∀ j' : Nat, j' < j → hM (fl c l (i + 1) (6 + j')) = decide ((rd_T69 ns i).f2 - (rd_T69 ns i).f3 ≤ j')

section
variable {c : Cf} {ns : List S69} (N : NodesOk c ns)
include N

theorem Part.set {i : Nat} (hi : i ≤ ns.length) {l : List Int} (P : Part c ns i l) {a b v : Int} (ha : 0 ≤ a ∧ a ≤ c.cp) (hb : 0 ≤ b ∧ b < 6 + c.he) (hn : a = 0 ∨ (i : Int) < a) (hv : U64 v) : Part c ns i (l.set (c.cel a b).toNat v) := by
  have hr := N.room
  have he := N.ok
  have hh : 1 ≤ c.he := he.2.2.2.2.2.2.1
  refine ⟨by rw [List.length_set]; exact P.len, fun x hx => ?_, fun k hk => ?_, fun k hk j hj => ?_⟩
  · rcases List.mem_or_eq_of_mem_set hx with h | rfl
    · exact P.wd x h
    · exact hv
  · rw [fl_set N.ok P.len ha hb ⟨by omega, by omega⟩ ⟨by omega, by omega⟩, if_neg (by omega)]
    exact P.tall k hk
  · have := N.each k (by omega)
    have h2 := this.2.1
    rw [fl_set N.ok P.len ha hb ⟨by omega, by omega⟩ ⟨by omega, by omega⟩, if_neg (by omega)]
    exact P.mark k hk j hj

theorem Part.cell {i : Nat} {l : List Int} (P : Part c ns i l) {a b : Int} (ha : 0 ≤ a ∧ a ≤ c.cp) (hb : 0 ≤ b ∧ b < 6 + c.he) : 0 ≤ c.cel a b ∧ c.cel a b < (l.length : Int) := by
  obtain ⟨b0, _⟩ := c.bounds N.ok
  obtain ⟨-, q1, q2⟩ := cel_yes c N.ok ha hb
  have := P.len
  omega

omit N in
theorem Part.next {i : Nat} {l : List Int} (P : Part c ns i l) {T : Nat} (hT : (T : Int) = (rd_T69 ns i).f2) (Q : PartN c ns i T l) : Part c ns (i + 1) l := by
  refine ⟨P.len, P.wd, fun k hk => ?_, fun k hk j hj => ?_⟩
  · by_cases e : k = i
    · subst e; exact Q.tall
    · exact P.tall k (by omega)
  · by_cases e : k = i
    · subst e; exact Q.mark j (by omega)
    · exact P.mark k (by omega) j hj

theorem PartN.set {i j : Nat} {l : List Int} (hi : i < ns.length) (P : Part c ns i l) (hj : (j : Int) < (rd_T69 ns i).f2) (Q : PartN c ns i j l) {v : Int} (hv : hM v = decide ((rd_T69 ns i).f2 - (rd_T69 ns i).f3 ≤ j)) :
    PartN c ns i (j + 1) (l.set (c.cel (i + 1) (6 + j)).toNat v) := by
  have hr := N.room
  have h2 := (N.each i hi).2.1
  refine ⟨?_, fun j' hj' => ?_⟩
  · rw [fl_set N.ok P.len ⟨by omega, by omega⟩ ⟨by omega, by omega⟩ ⟨by omega, by omega⟩ ⟨by omega, by omega⟩, if_neg (by omega)]
    exact Q.tall
  · rw [fl_set N.ok P.len ⟨by omega, by omega⟩ ⟨by omega, by omega⟩ ⟨by omega, by omega⟩ ⟨by omega, by omega⟩]
    by_cases e : j' = j
    · subst e; rw [if_pos ⟨rfl, rfl⟩]; exact hv
    · rw [if_neg (by omega)]; exact Q.mark j' (by omega)

set_option maxHeartbeats 400000 in
theorem lay_l2 (d i : Nat) (hi : i + d + 1 = ns.length)
    (IH : ∀ l k, Part c ns (i + 1) l → 10 * d + 80 ≤ k → ∃ r, stepstoneref11_Lay.l1 k ns l ((i + 1 : Nat) : Int) c.th c.sl c.cp c.he c.ke c.ev c.la = some r ∧ Part c ns ns.length r) :
    ∀ (e j : Nat) (l : List Int) (k : Nat), (j : Int) + e = (rd_T69 ns i).f2 → 10 * d + 81 + e ≤ k → Part c ns i l → PartN c ns i j l →
      ∃ r, stepstoneref11_Lay.l2 k ns l (i : Int) (j : Int) c.th c.sl c.cp c.he c.ke c.ev c.la (rd_T69 ns i).f0 (rd_T69 ns i).f1 (rd_T69 ns i).f2 (rd_T69 ns i).f3 (rd_T69 ns i).f4 = some r ∧ Part c ns ns.length r := by
  intro e
  induction e with
  | zero =>
    intro j l k hj hk P Q
    have hr := N.room
    have hcp : c.cp ≤ 64 := N.ok.2.2.2.2.2.1
    obtain ⟨k, rfl⟩ : ∃ k', k = k' + 1 := ⟨k - 1, by omega⟩
    have e1 : wrap64 ((i : Int) + 1) = ((i + 1 : Nat) : Int) := by rw [w64 (by omega) (by omega)]; omega
    unfold stepstoneref11_Lay.l2
    rw [if_neg (by omega), e1]
    exact IH l k (P.next (T := j) (by omega) Q) (by omega)
  | succ e ih =>
    intro j l k hj hk P Q
    have hr := N.room
    have hcp : c.cp ≤ 64 := N.ok.2.2.2.2.2.1
    have hhe : c.he ≤ 6 := N.ok.2.2.2.2.2.2.2.1
    obtain ⟨n1, n2, n3, n4⟩ := N.each i (by omega)
    obtain ⟨k, rfl⟩ : ∃ k', k = k' + 1 := ⟨k - 1, by omega⟩
    have e1 : Hid (wrap64 ((i : Int) + 1) = (i : Int) + 1) := hid (w64 (by omega) (by omega))
    have e2 : Hid (wrap64 (6 + (j : Int)) = 6 + (j : Int)) := hid (w64 (by omega) (by omega))
    have e3 : Hid (wrap64 ((j : Int) + 1) = ((j + 1 : Nat) : Int)) := hid (by rw [w64 (by omega) (by omega)]; omega)
    have e4 : Hid (wrap64 ((rd_T69 ns i).f2 - (rd_T69 ns i).f3) = (rd_T69 ns i).f2 - (rd_T69 ns i).f3) := hid (w64 (by omega) (by omega))
    obtain ⟨x, hx, hu, hm⟩ := behind_f ns (by omega) (j : Int) (i + 1) (by omega) k (by omega)
    rw [show ((i + 1 : Nat) : Int) - 1 = (i : Int) by omega] at hx
    have cl := P.cell N (a := (i : Int) + 1) (b := 6 + j) ⟨by omega, by omega⟩ ⟨by omega, by omega⟩
    have fin : ∀ v, U64 v → hM v = decide ((rd_T69 ns i).f2 - (rd_T69 ns i).f3 ≤ j) →
        ∃ r, stepstoneref11_Lay.l2 k ns (l.set (c.cel (i + 1) (6 + j)).toNat v) (i : Int) ((j + 1 : Nat) : Int) c.th c.sl c.cp c.he c.ke c.ev c.la (rd_T69 ns i).f0 (rd_T69 ns i).f1 (rd_T69 ns i).f2 (rd_T69 ns i).f3 (rd_T69 ns i).f4 = some r ∧ Part c ns ns.length r := fun v h1 h2 =>
      ih (j + 1) _ k (by omega) (by omega) (P.set N (by omega) ⟨by omega, by omega⟩ ⟨by omega, by omega⟩ (.inr (by omega)) h1) (Q.set N (by omega) P (by omega) h2)
    unfold stepstoneref11_Lay.l2
    rw [if_pos (by omega), hx, Option.bind_some, e1.out, e2.out, e3.out, e4.out, ref_cell_f, Option.bind_some]
    by_cases hge : (j : Int) ≥ (rd_T69 ns i).f2 - (rd_T69 ns i).f3
    · obtain ⟨y, hy, yu, ym⟩ := mark_f hu hm
      rw [if_pos hge, hy, Option.bind_some, Option.bind_some, if_pos cl.1, if_pos cl.2]
      exact fin y yu (by rw [ym, decide_eq_true (by omega)])
    · rw [if_neg hge, if_pos cl.1, if_pos cl.2]
      exact fin x hu (by rw [hm, decide_eq_false (by omega)])

theorem lay_l1 (F : ∀ n ∈ ns, U64 n.f0 ∧ U64 n.f1) : ∀ (d i : Nat) (l : List Int) (k : Nat), i + d = ns.length → 10 * d + 80 ≤ k → Part c ns i l →
      ∃ r, stepstoneref11_Lay.l1 k ns l (i : Int) c.th c.sl c.cp c.he c.ke c.ev c.la = some r ∧ Part c ns ns.length r := by
  intro d
  induction d with
  | zero =>
    intro i l k hi hk P
    obtain ⟨k, rfl⟩ : ∃ k', k = k' + 1 := ⟨k - 1, by omega⟩
    unfold stepstoneref11_Lay.l1
    rw [if_neg (by omega)]
    obtain rfl : i = ns.length := by omega
    exact ⟨l, rfl, P⟩
  | succ d ih =>
    intro i l k hi hk P
    have hr := N.room
    have hcp : c.cp ≤ 64 := N.ok.2.2.2.2.2.1
    have hhe : c.he ≤ 6 := N.ok.2.2.2.2.2.2.2.1
    have hhe1 : 1 ≤ c.he := N.ok.2.2.2.2.2.2.1
    obtain ⟨n1, n2, n3, n4⟩ := N.each i (by omega)
    obtain ⟨f0, f1⟩ : U64 (rd_T69 ns (i : Int)).f0 ∧ U64 (rd_T69 ns (i : Int)).f1 := by
      have e : rd_T69 ns (i : Int) = ns[i]'(by omega) := by unfold rd_T69; simp [List.getD, show i < ns.length by omega]
      rw [e]; exact F _ (List.getElem_mem _)
    obtain ⟨k, rfl⟩ : ∃ k', k = k' + 2 := ⟨k - 2, by omega⟩
    have e1 : Hid (wrap64 ((i : Int) + 1) = (i : Int) + 1) := hid (w64 (by omega) (by omega))
    have w : ∀ x : Int, IntKind.u64.wrap x = x % 18446744073709551616 := fun x => rfl
    have wu : ∀ x : Int, U64 (IntKind.u64.wrap x) := fun x => by rw [w]; exact ⟨by omega, by omega⟩
    have tk : stepstoneref02_Taken.f 0 = some 1 := by decide +kernel
    have wt : IntKind.u64.wrap (rd_T69 ns (i : Int)).f2 = (rd_T69 ns (i : Int)).f2 := by rw [w]; omega
    have c0 := P.cell N (a := (i : Int) + 1) (b := 0) ⟨by omega, by omega⟩ ⟨by omega, by omega⟩
    have c1 := P.cell N (a := (i : Int) + 1) (b := 1) ⟨by omega, by omega⟩ ⟨by omega, by omega⟩
    have c2 := P.cell N (a := (i : Int) + 1) (b := 2) ⟨by omega, by omega⟩ ⟨by omega, by omega⟩
    have c3 := P.cell N (a := (i : Int) + 1) (b := 3) ⟨by omega, by omega⟩ ⟨by omega, by omega⟩
    have c4 := P.cell N (a := (i : Int) + 1) (b := 4) ⟨by omega, by omega⟩ ⟨by omega, by omega⟩
    have c5 := P.cell N (a := (i : Int) + 1) (b := 5) ⟨by omega, by omega⟩ ⟨by omega, by omega⟩
    have st : ∀ (l' : List Int) (b v : Int), Part c ns i l' → 0 ≤ b ∧ b < 6 → U64 v → Part c ns i (l'.set (c.cel ((i : Int) + 1) b).toNat v) := fun l' b v P' hb hv =>
      P'.set N (by omega) ⟨by omega, by omega⟩ ⟨by omega, by omega⟩ (.inr (by omega)) hv
    have u1 : U64 1 := ⟨by omega, by omega⟩
    have ut : U64 (rd_T69 ns (i : Int)).f2 := ⟨by omega, by omega⟩
    have J : ∀ l' : List Int, Part c ns i l' → ∃ r, stepstoneref11_Lay.j2 (k + 1) ns l' (i : Int) c.th c.sl c.cp c.he c.ke c.ev c.la (rd_T69 ns i).f0 (rd_T69 ns i).f1 (rd_T69 ns i).f2 (rd_T69 ns i).f3 (rd_T69 ns i).f4 = some r ∧ Part c ns ns.length r := by
      intro l' P'
      have P5 := st _ 5 1 (st _ 4 _ (st _ 3 1 P' ⟨by omega, by omega⟩ u1) ⟨by omega, by omega⟩ ut) ⟨by omega, by omega⟩ u1
      have hl : l'.length = l.length := by have := P.len; have := P'.len; omega
      have Q5 : PartN c ns i 0 (((l'.set (c.cel ((i : Int) + 1) 3).toNat 1).set (c.cel ((i : Int) + 1) 4).toNat (rd_T69 ns (i : Int)).f2).set (c.cel ((i : Int) + 1) 5).toNat 1) := by
        refine ⟨?_, fun j hj => absurd hj (by omega)⟩
        have P3 := st _ 3 1 P' ⟨by omega, by omega⟩ u1
        have P4 := st _ 4 _ P3 ⟨by omega, by omega⟩ ut
        rw [fl_set N.ok P4.len ⟨by omega, by omega⟩ ⟨by omega, by omega⟩ ⟨by omega, by omega⟩ ⟨by omega, by omega⟩, if_neg (by omega),
          fl_set N.ok P3.len ⟨by omega, by omega⟩ ⟨by omega, by omega⟩ ⟨by omega, by omega⟩ ⟨by omega, by omega⟩, if_pos ⟨rfl, rfl⟩]
      obtain ⟨T, hT⟩ := Int.eq_ofNat_of_zero_le (by omega : 0 ≤ (rd_T69 ns (i : Int)).f2)
      unfold stepstoneref11_Lay.j2
      rw [e1.out]
      simp only [ref_cell_f, Option.bind_some, hl]
      rw [if_pos c3.1, if_pos c3.2, if_pos c4.1, if_pos c4.2, if_pos c5.1, if_pos c5.2, wt]
      exact lay_l2 N d i (by omega) (fun l k P hk => ih (i + 1) l k (by omega) hk P) T 0 _ k (by omega) (by omega) P5 Q5
    unfold stepstoneref11_Lay.l1
    rw [if_pos (by omega), if_pos (by omega), e1.out]
    simp only [ref_cell_f, tk, Option.bind_some]
    rw [if_pos c0.1, if_pos c0.2, if_pos c1.1, if_pos c1.2, if_pos c2.1, if_pos c2.2]
    have P2 := st _ 2 _ (st _ 1 _ (st _ 0 1 P ⟨by omega, by omega⟩ u1) ⟨by omega, by omega⟩ f0) ⟨by omega, by omega⟩ (wu (2 * (rd_T69 ns (i : Int)).f1))
    by_cases hd : (rd_T69 ns (i : Int)).f4 = true
    · rw [if_pos hd, if_pos c2.1, if_pos c2.2]
      exact J _ (st _ 2 _ P2 ⟨by omega, by omega⟩ (wu _))
    · rw [if_neg hd]
      exact J _ P2

theorem lay_l0 (F : ∀ n ∈ ns, U64 n.f0 ∧ U64 n.f1) : ∀ (e j : Nat) (l : List Int) (k : Nat), (j : Int) + e = c.he → 10 * ns.length + 81 + e ≤ k → Part c ns 0 l →
      ∃ r, stepstoneref11_Lay.l0 k ns l (j : Int) c.th c.sl c.cp c.he c.ke c.ev c.la = some r ∧ Part c ns ns.length r := by
  intro e
  induction e with
  | zero =>
    intro j l k hj hk P
    obtain ⟨k, rfl⟩ : ∃ k', k = k' + 1 := ⟨k - 1, by omega⟩
    unfold stepstoneref11_Lay.l0
    rw [if_neg (by omega)]
    exact lay_l1 N F ns.length 0 l k (by omega) (by omega) P
  | succ e ih =>
    intro j l k hj hk P
    have hr := N.room
    have hcp : c.cp ≤ 64 := N.ok.2.2.2.2.2.1
    have hcp1 : 1 ≤ c.cp := N.ok.2.2.2.2.1
    have hhe : c.he ≤ 6 := N.ok.2.2.2.2.2.2.2.1
    obtain ⟨k, rfl⟩ : ∃ k', k = k' + 1 := ⟨k - 1, by omega⟩
    have e2 : Hid (wrap64 (6 + (j : Int)) = 6 + (j : Int)) := hid (w64 (by omega) (by omega))
    have e3 : Hid (wrap64 ((j : Int) + 1) = ((j + 1 : Nat) : Int)) := hid (by rw [w64 (by omega) (by omega)]; omega)
    obtain ⟨x, hx, hu, hm⟩ := behind_f ns (by omega) (j : Int) 0 (by omega) k (by omega)
    rw [show ((0 : Nat) : Int) - 1 = -1 by omega] at hx
    have cl := P.cell N (a := 0) (b := 6 + j) ⟨by omega, by omega⟩ ⟨by omega, by omega⟩
    unfold stepstoneref11_Lay.l0
    rw [if_pos (by omega), e2.out, e3.out, ref_cell_f, Option.bind_some, hx, Option.bind_some, if_pos cl.1, if_pos cl.2]
    exact ih (j + 1) _ k (by omega) (by omega) (P.set N (by omega) ⟨by omega, by omega⟩ ⟨by omega, by omega⟩ (.inl rfl) hu)

/-- The words of a world that is laid. -/
theorem lay_f (F : ∀ n ∈ ns, U64 n.f0 ∧ U64 n.f1) :
    ∃ r, stepstoneref11_Lay.f (10 * ns.length + 90) c.th c.sl c.cp c.he c.ke c.ev c.la ns = some r ∧ Part c ns ns.length r := by
  obtain ⟨b0, b1, b2, b3, b4, b5⟩ := c.bounds N.ok
  have hcells := c.cells_ok N.ok
  have hhe : 1 ≤ c.he ∧ c.he ≤ 6 := ⟨N.ok.2.2.2.2.2.2.1, N.ok.2.2.2.2.2.2.2.1⟩
  have hlen : (c.words0.length : Int) = c.cells := by unfold Cf.words0; simp; omega
  have hwd : ∀ x ∈ c.words0, U64 x := by
    intro x hx
    unfold Cf.words0 at hx
    rcases List.mem_or_eq_of_mem_set hx with hx | rfl
    · rcases List.mem_or_eq_of_mem_set hx with hx | rfl
      · rcases List.mem_or_eq_of_mem_set hx with hx | rfl
        · rw [List.eq_of_mem_replicate hx]; exact ⟨by omega, by omega⟩
        · exact ⟨by omega, by omega⟩
      · exact ⟨by omega, by omega⟩
    · exact ⟨by omega, by omega⟩
  have P : Part c ns 0 c.words0 := ⟨hlen, hwd, fun k hk => absurd hk (by omega), fun k hk => absurd hk (by omega)⟩
  obtain ⟨T, hT⟩ := Int.eq_ofNat_of_zero_le (by omega : 0 ≤ c.he)
  unfold stepstoneref11_Lay.f stepstoneref05_New.f
  rw [if_pos N.ok, Option.bind_some, Option.bind_some]
  simp only [List.nil_append, List.length_nil]
  rw [show (Cf.words0 ⟨c.th, c.sl, c.cp, c.he, c.ke, c.ev, c.la⟩) = c.words0 from rfl, if_pos (by omega)]
  exact lay_l0 N F T 0 _ _ (by omega) (by omega) P
end

end Go.Proofs.YthbkncklliiooaaH

namespace Go.Proofs.YthbkncklliiooaaH
set_option linter.unusedVariables false
set_option linter.unusedSimpArgs false
open Go.RowKit Go.Proofs.YthbkncklliiooaaW.PrintWords Go.Proofs.YthbkncklliiooaaW.PrintLast Go.Proofs.YthbkncklliiooaaW.PrintMore Go.Proofs.Ythbkncklliiooaa.Q

/-- A row of nodes at an address. -/
def NRow (w : World) (A : Option Addr) (ns : List S69) : Prop := Kd.C k69 w A ns.length ns
theorem NRow.gr {w w' : World} {A : Option Addr} {ns : List S69} (h : NRow w A ns) (g : Gr w w') : NRow w' A ns := Kd.C_below h g

theorem right_call (c : Cf) (ns : List S69) (hl : ns.length ≤ 9223372036854775807) :
    ∃ b, (b = true → NodesOk c ns) ∧ ∀ (A : Option Addr) (cap : Nat) (w : World), NRow w A ns → ns.length ≤ cap →
      Calls Try.prog 36 #[c.val, .slice A ns.length cap] w fun e w' => e = .returned (.bool b) ∧ Gr w w' := by
  obtain ⟨b, hb, hp⟩ := right_nodes c ns hl
  exact ⟨b, hp, fun A cap w hk hc => stepstoneref11_Right.calls _ c.th c.sl c.cp c.he c.ke c.ev c.la A cap ns b w hk hc hb⟩

/-- The words laid: the world is there, and the words are such as the nodes say. -/
theorem lay_words (c : Cf) (ns : List S69) (N : NodesOk c ns) (F : ∀ n ∈ ns, U64 n.f0 ∧ U64 n.f1) :
    ∃ l, Part c ns ns.length l ∧ ∀ (A : Option Addr) (cap : Nat) (w : World), NRow w A ns → ns.length ≤ cap →
      Calls Try.prog 38 #[c.val, .slice A ns.length cap] w fun e w' => (∃ v, e = .returned v ∧ Words w' v l) ∧ Gr w w' := by
  obtain ⟨l, hl, P⟩ := lay_f N F
  refine ⟨l, P, fun A cap w hk hc => (stepstoneref11_Lay.calls _ c.th c.sl c.cp c.he c.ke c.ev c.la A cap ns l w hk hc hl).mono ?_⟩
  rintro e w' ⟨v, rfl, hr, hb⟩
  have hp : 0 < l.length := by
    have h1 := P.len
    have := (cells_pos c).2 N.ok
    omega
  obtain ⟨q, cap', rfl, _, _, hw⟩ := row_words hr hp
  exact ⟨⟨_, rfl, hw⟩, hb⟩

/-- A node that is laid, as what the help meets. -/
theorem part_ctx {c : Cf} {ns : List S69} (N : NodesOk c ns) {l : List Int} (P : Part c ns ns.length l) {h : Int} (hh : U64 h) {k : Nat} (hk : k < ns.length) (hi : hI h = (k : Int) + 1) :
    ∃ T : Nat, (T : Int) = (rd_T69 ns k).f2 ∧ Ctx c h T ∧ Row c h T l ∧ Upper c h T l := by
  obtain ⟨n1, n2, n3, n4⟩ := N.each k hk
  have hr := N.room
  have hhe : 1 ≤ c.he ∧ c.he ≤ 6 := ⟨N.ok.2.2.2.2.2.2.1, N.ok.2.2.2.2.2.2.2.1⟩
  obtain ⟨T, hT⟩ := Int.eq_ofNat_of_zero_le (by omega : 0 ≤ (rd_T69 ns k).f2)
  have ht := P.tall k hk
  have e4 : l.getD (tc c h) 0 = (rd_T69 ns k).f2 := by
    unfold tc; rw [hi]; exact ht
  refine ⟨T, hT.symm, ⟨N.ok, by omega, by omega, by omega, by omega⟩, ⟨P.len, P.wd, ?_⟩, ?_⟩
  · rw [e4]; unfold topLv; omega
  · intro n hn hm
    have m1 := P.mark k hk n (by omega)
    have m2 := P.mark k hk (n + 1) (by omega)
    unfold Mkd lc at *
    rw [hi] at *
    unfold fl at m1 m2
    rw [m1] at hm
    rw [m2]
    have := of_decide_eq_true hm
    exact decide_eq_true (by omega)
end Go.Proofs.YthbkncklliiooaaH

namespace Go.Proofs.YthbkncklliiooaaH
set_option linter.unusedVariables false
set_option linter.unusedSimpArgs false
open Go.ChangeShapes Go.WideShapes Go.ChangeAt Go.RowKit Go.Joins Go.Deep Go.Proofs.YthbkncklliiooaaW.PrintWords Go.Proofs.Ythbkncklliiooaa.Q

section
variable {H : Type} {enc : TypeId × Value → H} {P : Program} {w : World} {base : Nat} {spare : Nat → Bool} {held : Bool}
theorem open_slice_fields {t e : TypeId} {fs : Array Field} {fuel : Nat} {cs : List Value} {x : DataW H × List MemPlace} (ht : P.underlying t = some (.slice e)) (he : P.underlying e = some (.struct fs))
    (hone : oneCellFields P fs = true) (hC : P.cellsOf e = fs.size) (h : DataW.trod enc P w base spare held fuel t cs = some x) :
    (cs = [.slice none 0 0] ∧ x = (.nil, [])) ∨
    ∃ (a : Addr) (len cap m : Nat) (D : Nat → DataW H) (Pl : Nat → List MemPlace), cs = [.slice (some a) len cap] ∧ base ≤ a.block ∧ len ≤ cap ∧ cap ≤ maxLen ∧ m = (if spare a.block then cap else len) ∧
      x = (.slice ((List.range len).map D) ((List.range (m - len)).map fun j => D (len + j)), MemPlace.row a (m * fs.size) ++ (List.range m).flatMap Pl) ∧
      ∀ i, i < m → ∃ (ys : List (DataW H × List MemPlace)) (n : Nat), D i = .agg (ys.map (·.1)) ∧ Pl i = ys.flatMap (·.2) ∧ ys.length = fs.size ∧
        ∀ (j : Nat) (f : Field), fs[j]? = some f → ∃ (v : Value) (y : DataW H × List MemPlace), w.cell? (a.add (i * fs.size + j)) = some v ∧ ys[j]? = some y ∧ DataW.trod enc P w base spare held n f.type [v] = some y := by
  rcases open_slice ht h with h0 | ⟨a, len, cap, m, n, D, Pl, hcs, hb, hl, hm, hmm, hx, hi⟩
  · exact .inl h0
  · refine .inr ⟨a, len, cap, m, D, Pl, hcs, hb, hl, hm, hmm, by rw [hC] at hx; exact hx, fun i him => ?_⟩
    obtain ⟨cs', hc, ht'⟩ := hi i him
    rw [hC] at hc
    obtain ⟨ys, n', hn', hy, hlen, hyl, hf⟩ := DataW.trod_struct he ht'
    obtain ⟨_, hcl, hat⟩ := World.cells?_some hc
    simp only [Prod.mk.injEq] at hy
    refine ⟨ys, n', hy.1, hy.2, hyl, fun j f hj => ?_⟩
    obtain ⟨ho, hk⟩ := hone_of hone j f hj
    have hjl : j < fs.size := (Array.getElem?_eq_some_iff.1 hj).1
    have hcell := hat j hjl
    have hv : cs'[j]? = some (cs'[j]'(by omega)) := List.getElem?_eq_getElem (by omega)
    have h1 := hf j f hj
    rw [ho, hk] at h1
    have hone' : (cs'.drop j).take 1 = [cs'[j]'(by omega)] := by
      rw [List.drop_eq_getElem_cons (by omega)]
      rfl
    rw [hone'] at h1
    have hys : ys[j]? = some (ys[j]'(by omega)) := List.getElem?_eq_getElem (by omega)
    refine ⟨_, _, ?_, hys, h1.trans hys⟩
    rw [← Go.Deep.add_add, hcell, hv]
end

/-- A row of nodes that is read. -/
def Nodes (w : World) (v : Value) (ns : List S69) : Prop := ∃ (A : Option Addr) (cap : Nat), v = .slice A ns.length cap ∧ ns.length ≤ cap ∧ ns.length ≤ 9223372036854775807 ∧ Kd.C k69 w A ns.length ns ∧ ∀ n ∈ ns, U64 n.f0 ∧ U64 n.f1

set_option maxRecDepth 100000 in
theorem open_nodes {H : Type} {enc : TypeId × Value → H} {w : World} {base b0 : Nat} {spare : Nat → Bool} {held : Bool} {r : Reach} {v : Value} {d : DataW H} {p : List MemPlace}
    (hv : Value.okWide Try.prog w r b0 62 v) (h : DataW.Trod enc Try.prog w base spare held 62 v d p) : ∃ ns : List S69, Nodes w v ns := by
  obtain ⟨a0, len, cap, rfl⟩ := okWide_slice Try.underlying62 hv
  obtain ⟨fuel, hf⟩ := h
  rcases open_slice_fields Try.underlying62 Try.underlying69 (by kernel_rfl) (by kernel_rfl) hf with ⟨hcs, hx⟩ | ⟨a, len', cap', m, D, Pl, hcs, _, hl, hcm, hm, hx, hi⟩
  · simp [Value.cells] at hcs
    obtain ⟨rfl, rfl, rfl⟩ := hcs
    exact ⟨[], none, 0, rfl, Nat.le_refl _, by simp, ⟨rfl, by simp, fun h => absurd h (by simp)⟩, fun n hn => by cases hn⟩
  · simp [Value.cells] at hcs
    obtain ⟨rfl, rfl, rfl⟩ := hcs
    have hlm : len ≤ m := by subst hm; split <;> omega
    have one : ∀ i, ∃ o : S69, i < len → (w.cell? (a.add (i * 5)) = some (.int .u64 o.f0) ∧ w.cell? (a.add (i * 5 + 1)) = some (.int .u64 o.f1) ∧
        w.cell? (a.add (i * 5 + 2)) = some (.int .i64 o.f2) ∧ w.cell? (a.add (i * 5 + 3)) = some (.int .i64 o.f3) ∧ w.cell? (a.add (i * 5 + 4)) = some (.bool o.f4)) ∧ U64 o.f0 ∧ U64 o.f1 := by
      intro i
      by_cases h : i < len
      · obtain ⟨ys, n, _, _, _, hj⟩ := hi i (by omega)
        obtain ⟨v0, y0, c0, _, t0⟩ := hj 0 _ rfl
        obtain ⟨v1, y1, c1, _, t1⟩ := hj 1 _ rfl
        obtain ⟨v2, y2, c2, _, t2⟩ := hj 2 _ rfl
        obtain ⟨v3, y3, c3, _, t3⟩ := hj 3 _ rfl
        obtain ⟨v4, y4, c4, _, t4⟩ := hj 4 _ rfl
        obtain ⟨x0, rfl, r0⟩ := leaf_int Try.underlying40 ⟨_, _, t0⟩
        obtain ⟨x1, rfl, r1⟩ := leaf_int Try.underlying40 ⟨_, _, t1⟩
        obtain ⟨x2, rfl, _⟩ := leaf_int Try.underlying3 ⟨_, _, t2⟩
        obtain ⟨x3, rfl, _⟩ := leaf_int Try.underlying3 ⟨_, _, t3⟩
        obtain ⟨x4, rfl⟩ := leaf_bool Try.underlying4 ⟨_, _, t4⟩
        exact ⟨⟨x0, x1, x2, x3, x4⟩, fun _ => ⟨⟨c0, c1, c2, c3, c4⟩, u64_of r0, u64_of r1⟩⟩
      · exact ⟨z69, fun h' => absurd h' h⟩
    obtain ⟨f, hf⟩ := Classical.axiomOfChoice one
    have hcap : cap ≤ 9223372036854775807 := hcm
    refine ⟨(List.range len).map f, some a, cap, by simp, by simpa using hl, by simp; omega, ⟨by simp, by simp; omega, fun _ => ⟨a, rfl, fun j p hp => ?_⟩⟩, fun n hn => ?_⟩
    · have hj : j < len := by
        have := (List.getElem?_eq_some_iff.1 hp).1
        simpa using this
      obtain rfl : p = f j := by simpa [hj] using hp.symm
      obtain ⟨⟨c0, c1, c2, c3, c4⟩, _⟩ := hf j hj
      refine ⟨[.int .u64 (f j).f0, .int .u64 (f j).f1, .int .i64 (f j).f2, .int .i64 (f j).f3, .bool (f j).f4], rfl, k69_mk w (f j), fun i u hu => ?_⟩
      match i with
      | 0 => simpa using (by simpa using hu : _ = u) ▸ c0
      | 1 => exact (by simpa using hu : Value.int .u64 (f j).f1 = u) ▸ c1
      | 2 => exact (by simpa using hu : Value.int .i64 (f j).f2 = u) ▸ c2
      | 3 => exact (by simpa using hu : Value.int .i64 (f j).f3 = u) ▸ c3
      | 4 => exact (by simpa using hu : Value.bool (f j).f4 = u) ▸ c4
      | i + 5 => simp at hu
    · simp only [List.mem_map, List.mem_range] at hn
      obtain ⟨j, hj, rfl⟩ := hn
      exact (hf j hj).2
end Go.Proofs.YthbkncklliiooaaH
