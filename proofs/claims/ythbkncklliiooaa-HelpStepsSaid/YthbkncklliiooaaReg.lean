/-
  A region that draws its order: operations that tell the same in all worlds of a class, and leave the world as it is, are taken as soon as they may be; the others stand, by that, in one order, and each is walked in its own world.
-/
import Derived.Test.YthbkncklliiooaaHeap
namespace Go.Proofs.YthbkncklliiooaaH
set_option linter.unusedVariables false
set_option linter.unusedSimpArgs false

section
variable {P : Program} {ops : Array Oper} {md : Region.Mode} {C : World → Prop} {Q : Act → World → Prop}

/-- No way out but the normal one. -/
def noExit : Exit → Act → World → Prop := fun _ _ _ => False

theorem wp_exits {o : Oper} {a : Act} {w : World} {K : Act → World → Prop} {Q' Q'' : Exit → Act → World → Prop} (hq : ∀ x a w, Q' x a w → x = .normal ∧ False) (h : o.wp P a w K Q') : o.wp P a w K Q'' := by
  unfold Oper.wp at *
  generalize (execOp a.eval o).run P w = r at *
  cases r with
  | ok n w' =>
    cases n <;> simp only [Oper.upon] at h ⊢ <;>
      first
        | exact h
        | exact Calls.mono h (fun e w'' he => by
            cases e
            · exact he
            · exact (hq _ _ _ he).2.elim
            · obtain ⟨a, w, h⟩ := he
              exact (hq _ _ _ h).2.elim)
  | halt x w' =>
    cases x <;> simp only [Oper.upon] at h ⊢
    exact (hq _ _ _ h).2.elim

theorem wp_exits_normal {o : Oper} {a : Act} {w : World} {K K' : Act → World → Prop} {Q' : Exit → Act → World → Prop} (hk : ∀ a w, K a w → K' a w) (hq : ∀ x a w, x ≠ .normal → ¬ Q' x a w) (h : o.wp P a w K Q') : o.wp P a w K' noExit := by
  refine Oper.wp_mono hk ?_
  unfold Oper.wp at *
  generalize (execOp a.eval o).run P w = r at *
  cases r with
  | ok n w' =>
    cases n <;> simp only [Oper.upon] at h ⊢ <;>
      first
        | exact h
        | exact Calls.mono h (fun e w'' he => by
            cases e
            · exact he
            · exact (hq _ _ _ (by simp) he).elim
            · obtain ⟨a, w, h⟩ := he
              exact (hq _ _ _ (by simp) h).elim)
  | halt x w' =>
    cases x <;> simp only [Oper.upon] at h ⊢
    exact (hq _ _ _ (by simp) h).elim

/-- One operation comes up. -/
def opC (P : Program) (ops : Array Oper) (C : World → Prop) (i : Nat) (K : Act → World → Prop) (a : Act) (w : World) : Prop :=
  match ops[i]? with
  | none => False
  | some o => if Region.wanted o (yielded ops a.tmps) then o.wp P a w (fun a' w' => C w' ∧ K a' w') noExit else C w ∧ K (a.put o.dst undef) w

theorem opC_mono {i : Nat} {a : Act} {w : World} {K K' : Act → World → Prop} (h : ∀ a w, C w → K a w → K' a w) (hh : opC P ops C i K a w) : opC P ops C i K' a w := by
  unfold opC at *
  split
  · simp_all
  · rename_i o ho
    simp only [ho] at hh
    split
    · rename_i hw; simp only [hw, if_true] at hh; exact Oper.wp_mono (fun a w ⟨hc, hk⟩ => ⟨hc, h _ _ hc hk⟩) hh
    · rename_i hw; simp only [hw] at hh; exact ⟨hh.1, h _ _ hh.1 hh.2⟩

/-- Whatever order is picked from here on. -/
def anyC (P : Program) (md : Region.Mode) (ops : Array Oper) (C : World → Prop) (Q : Act → World → Prop) : Nat → Array Bool → Act → World → Prop
  | 0, listed, a, w => Region.ready md ops listed = [] ∧ Q a w
  | fuel + 1, listed, a, w => (Region.ready md ops listed = [] → Q a w) ∧ ∀ i ∈ Region.ready md ops listed, opC P ops C i (anyC P md ops C Q fuel (listed.setIfInBounds i true)) a w

theorem wpOp_of_opC {i : Nat} {a : Act} {w : World} {K K' : Act → World → Prop} {Q' : Exit → Act → World → Prop} (h : ∀ a w, C w → K a w → K' a w) (hh : opC P ops C i K a w) : wpOp P ops Q' i K' a w := by
  unfold opC at hh
  unfold wpOp
  split
  · simp_all
  · rename_i o ho
    simp only [ho] at hh
    split
    · rename_i hw
      simp only [hw, if_true] at hh
      exact .inl (wp_exits (fun _ _ _ h => h.elim) (Oper.wp_mono (fun a w ⟨hc, hk⟩ => h _ _ hc hk) hh))
    · rename_i hw; simp only [hw] at hh; exact h _ _ hh.1 hh.2

theorem wpAny_of_anyC {Q' : Exit → Act → World → Prop} (hQ : ∀ a w, Q a w → Q' .normal a w) : ∀ (fuel : Nat) (listed : Array Bool) (a : Act) (w : World),
    anyC P md ops C Q fuel listed a w → wpAny P md ops Q' fuel listed a w
  | 0, _, _, _, h => ⟨h.1, hQ _ _ h.2⟩
  | fuel + 1, _, _, _, h => ⟨fun h0 => hQ _ _ (h.1 h0), fun i hi => wpOp_of_opC (fun a' w' _ => wpAny_of_anyC hQ fuel _ a' w') (h.2 i hi)⟩

/-- In this state, in every world of the class, the operation yields this value and leaves the world as it is. -/
def PureIn (P : Program) (ops : Array Oper) (C : World → Prop) (o : Oper) (v : Value) (a : Act) : Prop :=
  (Region.wanted o (yielded ops a.tmps) = true ∧ ∀ w, C w → o.quietAt P a (fun w' => w' = w) w v) ∨
  (Region.wanted o (yielded ops a.tmps) = false ∧ v = undef)

theorem PureIn.of_same {o : Oper} {v : Value} {a a' : Act} (hy : PureIn P ops C o v a) (he : execOp a'.eval o = execOp a.eval o)
    (hw : Region.wanted o (yielded ops a'.tmps) = Region.wanted o (yielded ops a.tmps)) : PureIn P ops C o v a' := by
  unfold PureIn Oper.quietAt at *
  rw [he, hw]
  exact hy

theorem opC_of_pure {i : Nat} {oi : Oper} {v : Value} {a : Act} {w : World} (hi : ops[i]? = some oi) (hy : PureIn P ops C oi v a) (hC : C w) {K : Act → World → Prop} (h : K (a.put oi.dst v) w) : opC P ops C i K a w := by
  unfold opC
  simp only [hi]
  rcases hy with ⟨hw, hv⟩ | ⟨hw, rfl⟩
  · simp only [hw, if_true]
    have h3 := hv w hC
    unfold Oper.quietAt at h3
    unfold Oper.wp
    generalize (execOp a.eval oi).run P w = r at *
    cases r with
    | ok n w' =>
      cases n <;> simp only [Oper.quietUpon] at h3 <;> simp only [Oper.upon]
      case value u =>
        obtain ⟨e1, e2⟩ := h3
        subst e1; subst e2
        exact ⟨hC, h⟩
      case skip =>
        obtain ⟨e1, e2⟩ := h3
        subst e1; subst e2
        exact ⟨hC, h⟩
      case enter f args =>
        obtain ⟨e1, hc⟩ := h3
        subst e1
        exact hc.mono fun e w'' ⟨he, hw''⟩ => by subst he; subst hw''; exact ⟨hC, h⟩
    | halt x w' => simp only [Oper.quietUpon] at h3
  · simp only [hw, Bool.false_eq_true, if_false]
    exact ⟨hC, h⟩

theorem opC_put {j : Nat} {oi oj : Oper} {v : Value} (hj : ops[j]? = some oj) (hap : oi.apart ops oj = true)
    (hsi : ∀ cs b, oi.op ≠ .select cs b) (hsj : ∀ cs b, oj.op ≠ .select cs b) {K : Act → World → Prop} {a : Act} {w : World}
    (hy : PureIn P ops C oi v a) (h : opC P ops C j K (a.put oi.dst v) w) :
    opC P ops C j (fun a' w' => PureIn P ops C oi v a' ∧ K (a'.put oi.dst v) w') a w := by
  obtain ⟨h1, h2, h3⟩ := Oper.apart_spec hap
  have keep : ∀ (a : Act), PureIn P ops C oi v a → ∀ u, PureIn P ops C oi v (a.put oj.dst u) := fun a hy u =>
    hy.of_same (execOp_put oi hsi a oj.dst u h3) (wanted_put oi a oj.dst u h3)
  have keepD : ∀ d, PureIn P ops C oi v { a with defers := d :: a.defers } := fun d => hy.of_same rfl rfl
  unfold opC at *
  simp only [hj] at *
  rw [wanted_put oj a oi.dst v h1] at h
  split
  · rename_i hw
    simp only [hw, if_true] at h
    unfold Oper.wp at *
    rw [execOp_put oj hsj a oi.dst v h1] at h
    generalize (execOp a.eval oj).run P w = r at *
    cases r with
    | ok n w' =>
      cases n <;> simp only [Oper.upon] at h ⊢
      case value u => exact ⟨h.1, keep a hy u, by rw [← Act.put_comm a v u h2]; exact h.2⟩
      case skip => exact ⟨h.1, keep a hy _, by rw [← Act.put_comm a v undef h2]; exact h.2⟩
      case defer d =>
        refine ⟨h.1, keep _ (keepD d) _, ?_⟩
        rw [← Act.put_comm _ v undef h2, ← Act.put_defers]
        exact h.2
      case enter f args =>
        refine Calls.mono h fun e w'' he => ?_
        cases e with
        | returned u => exact ⟨he.1, keep a hy u, by rw [← Act.put_comm a v u h2]; exact he.2⟩
        | panicked c => exact he.elim
        | outgrown => exact he
      case row row args => exact Rows.mono h fun u w'' he => ⟨he.1, keep a hy u, by rw [← Act.put_comm a v u h2]; exact he.2⟩
    | halt x w' =>
      cases x <;> simp only [Oper.upon] at h ⊢
      case panic u => exact h.elim
  · rename_i hw
    simp only [hw] at h
    exact ⟨h.1, keep a hy _, by rw [← Act.put_comm a v undef h2]; exact h.2⟩

/-- Such an operation that may come up now may be taken first. -/
theorem anyC_first {i : Nat} {oi : Oper} {v : Value} (hi : ops[i]? = some oi) (hsel : ∀ (j : Nat) (o : Oper) cs b, ops[j]? = some o → o.op ≠ .select cs b) :
    ∀ (fuel : Nat) (listed : Array Bool) (a : Act) (w : World),
      (∀ j oj, ops[j]? = some oj → j ≠ i → listed.getD j true = false → (∀ e ∈ oj.after, Region.binds md e = true → e.on ≠ i) → oi.apart ops oj = true) →
      i ∈ Region.ready md ops listed → PureIn P ops C oi v a → C w →
      anyC P md ops C Q fuel (listed.setIfInBounds i true) (a.put oi.dst v) w → anyC P md ops C Q (fuel + 1) listed a w := by
  intro fuel
  induction fuel with
  | zero =>
    intro listed a w _ hr hy hC H
    refine ⟨fun h => (by rw [h] at hr; cases hr), fun j hj => ?_⟩
    by_cases hji : j = i
    · subst hji; exact opC_of_pure hi hy hC H
    · have := ready_mono hj hji
      rw [H.1] at this
      cases this
  | succ fuel ih =>
    intro listed a w hfree hr hy hC H
    refine ⟨fun h => (by rw [h] at hr; cases hr), fun j hj => ?_⟩
    by_cases hji : j = i
    · subst hji; exact opC_of_pure hi hy hC H
    · have h1 := H.2 j (ready_mono hj hji)
      obtain ⟨hjun, oj, hoj, hall⟩ := mem_ready.1 hj
      have hnot : ∀ e ∈ oj.after, Region.binds md e = true → e.on ≠ i := fun e he hb heq => by
        have h1 := hall e he hb
        have h0 := (mem_ready.1 hr).1
        rw [heq] at h1
        rcases Nat.lt_or_ge i listed.size with h' | h'
        · simp [h'] at h0 h1; rw [h0] at h1; cases h1
        · simp [Array.getElem?_eq_none h'] at h1
      have h2 := opC_put hoj (hfree j oj hoj hji hjun hnot) (fun cs b => hsel i oi cs b hi) (fun cs b => hsel j oj cs b hoj) hy h1
      have hfree' : ∀ k ok, ops[k]? = some ok → k ≠ i → (listed.setIfInBounds j true).getD k true = false →
          (∀ e ∈ ok.after, Region.binds md e = true → e.on ≠ i) → oi.apart ops ok = true := fun k ok hk hki hun hno => by
        refine hfree k ok hk hki ?_ hno
        by_cases hjk : j = k
        · subst hjk; exact hjun
        · rw [getD_set_ne true hjk] at hun; exact hun
      refine opC_mono (fun a' w' hc h3 => ih (listed.setIfInBounds j true) a' w' hfree' (ready_mono hr (Ne.symm hji)) h3.1 hc ?_) h2
      rw [Array.setIfInBounds_comm _ _ hji]
      exact h3.2

/-! ### Many, by the kit's quiet walk in each world by itself: the frame at the end is the same, so is each value. -/

/-- The operations of these numbers. -/
def picked (ops : Array Oper) (ks : List Nat) : List Oper := ks.filterMap (ops[·]?)

/-- These may be taken, one by one, as soon as they stand in front. -/
def takesB (md : Region.Mode) (ops : Array Oper) : List Nat → Array Bool → Bool
  | [], _ => true
  | k :: ks, listed => (ops[k]?).isSome && (Region.ready md ops listed).contains k && Region.free md ops listed k && takesB md ops ks (listed.setIfInBounds k true)

/-- Each has a temporary of its own. -/
def ownB (n : Nat) : List Oper → Bool
  | [] => true
  | o :: l => (match o.dst with | some d => decide (d < n) && l.all fun o' => o'.dst != some d | none => false) && ownB n l

theorem put_get (a : Act) {x : Option Tmp} {d : Tmp} (v : Value) (h : x ≠ some d) : (a.put x v).tmps[d]? = a.tmps[d]? := by
  cases x with
  | none => rfl
  | some e =>
    have hne : e ≠ d := fun he => h (he ▸ rfl)
    simp [Act.put, Array.getElem?_setIfInBounds_ne hne]

theorem put_size (a : Act) (x : Option Tmp) (v : Value) : (a.put x v).tmps.size = a.tmps.size := by
  cases x <;> simp [Act.put]

theorem quiet_keeps {D : World → Prop} {a1 : Act} {d : Tmp} : ∀ (l : List Oper) (a : Act), wpQuiet P ops D (fun a' => a' = a1) l a → (∀ o ∈ l, o.dst ≠ some d) → a1.tmps[d]? = a.tmps[d]?
  | [], a, h, _ => by rw [show a = a1 from h]
  | o :: l, a, h, hd => by
    have h' : if Region.wanted o (yielded ops a.tmps) then o.quiet P a D (wpQuiet P ops D (fun a' => a' = a1) l) else wpQuiet P ops D (fun a' => a' = a1) l (a.put o.dst undef) := h
    have ho := hd o (by simp)
    split at h'
    · obtain ⟨v, _, h2⟩ := h'
      rw [quiet_keeps l _ h2 (fun o ho => hd o (by simp [ho])), put_get a v ho]
    · rw [quiet_keeps l _ h' (fun o ho => hd o (by simp [ho])), put_get a undef ho]

theorem anyC_pure (hs : Region.noSelect ops = true) (fuel : Nat) {a1 : Act} : ∀ (ks : List Nat) (listed : Array Bool) (a : Act) (w : World), takesB md ops ks listed = true → ownB a.tmps.size (picked ops ks) = true → C w →
    (∀ w', C w' → wpQuiet P ops (fun w'' => w'' = w') (fun a' => a' = a1) (picked ops ks) a) → anyC P md ops C Q fuel (ks.foldl (fun l k => l.setIfInBounds k true) listed) a1 w → anyC P md ops C Q (fuel + ks.length) listed a w
  | [], _, a, w, _, _, hC, h, H => by
    have e : a = a1 := h w hC
    rw [e]
    exact H
  | k :: ks, listed, a, w, hB, hO, hC, h, H => by
    simp only [takesB, Bool.and_eq_true, List.contains_iff_mem] at hB
    obtain ⟨⟨⟨hp, hr⟩, hf⟩, hB'⟩ := hB
    obtain ⟨o, h0⟩ := Option.isSome_iff_exists.1 hp
    have e : picked ops (k :: ks) = o :: picked ops ks := by simp [picked, h0]
    rw [e] at h hO
    simp only [ownB, Bool.and_eq_true] at hO
    obtain ⟨hO1, hO2⟩ := hO
    have h' : ∀ w', C w' → if Region.wanted o (yielded ops a.tmps) then o.quiet P a (fun w'' => w'' = w') (wpQuiet P ops (fun w'' => w'' = w') (fun a' => a' = a1) (picked ops ks)) else wpQuiet P ops (fun w'' => w'' = w') (fun a' => a' = a1) (picked ops ks) (a.put o.dst undef) := h
    have hfree := Region.free_spec h0 hf
    by_cases hw : Region.wanted o (yielded ops a.tmps) = true
    · simp only [hw, if_true] at h'
      obtain ⟨d, hd⟩ : ∃ d, o.dst = some d := by
        cases hd : o.dst with
        | none => simp [hd] at hO1
        | some d => exact ⟨d, rfl⟩
      simp only [hd, Bool.and_eq_true, decide_eq_true_eq, List.all_eq_true, bne_iff_ne] at hO1
      have hall : ∀ w', C w' → o.quietAt P a (fun w'' => w'' = w') w' (a1.tmps.getD d undef) ∧ wpQuiet P ops (fun w'' => w'' = w') (fun a' => a' = a1) (picked ops ks) (a.put o.dst (a1.tmps.getD d undef)) := fun w' hw' => by
        obtain ⟨v, h1, h2⟩ := h' w' hw'
        rw [hd] at h2
        have hv := quiet_keeps _ _ h2 (fun o ho => hO1.2 o ho)
        have hv' : a1.tmps.getD d undef = v := by
          have h3 : ((a.put (some d) v).tmps)[d]? = some v := by simp [Act.put, hO1.1]
          rw [h3] at hv
          simp [Array.getD_eq_getD_getElem?, hv]
        rw [hv', hd]
        exact ⟨h1 w' rfl, h2⟩
      exact anyC_first h0 (Region.noSelect_spec hs) (fuel + ks.length) listed a w hfree hr (.inl ⟨hw, fun w' hw' => (hall w' hw').1⟩) hC
        (anyC_pure hs fuel ks _ _ _ hB' (by rw [put_size]; exact hO2) hC (fun w' hw' => (hall w' hw').2) H)
    · have hw' : Region.wanted o (yielded ops a.tmps) = false := by simpa using hw
      simp only [hw', Bool.false_eq_true, if_false] at h'
      exact anyC_first h0 (Region.noSelect_spec hs) (fuel + ks.length) listed a w hfree hr (.inr ⟨hw', rfl⟩) hC
        (anyC_pure hs fuel ks _ _ _ hB' (by rw [put_size]; exact hO2) hC h' H)

/-- The same, the walk said of the worlds as such. -/
theorem anyC_quiet (hs : Region.noSelect ops = true) (fuel : Nat) {a1 : Act} (ks : List Nat) (listed : Array Bool) (a : Act) (w : World) (hB : takesB md ops ks listed = true) (hO : ownB a.tmps.size (picked ops ks) = true) (hC : C w)
    (h : ∀ w', C w' → wpQuiet P ops (fun w'' => ∃ s : St (· = w'), w'' = s.val) (fun a' => a' = a1) (picked ops ks) a) (H : anyC P md ops C Q fuel (ks.foldl (fun l k => l.setIfInBounds k true) listed) a1 w) : anyC P md ops C Q (fuel + ks.length) listed a w := by
  refine anyC_pure hs fuel ks listed a w hB hO hC (fun w' hw' => ?_) H
  have e : (fun w'' => ∃ s : St (· = w'), w'' = s.val) = (fun w'' => w'' = w') := funext fun w'' => propext ⟨fun ⟨s, h⟩ => h.trans s.ok, fun h => ⟨⟨w', rfl⟩, h⟩⟩
  have := h w' hw'
  rwa [e] at this

/-- One operation that stands alone in front: a call, a new block, a store. -/
theorem anyC_alone (k : Nat) {fuel : Nat} {listed : Array Bool} {a : Act} {w : World} (hC : C w) (hr : Region.ready md ops listed = [k]) (hk : (ops[k]?).isSome = true)
    (h : wpList P ops (fun x a' w' => x = .normal ∧ C w' ∧ anyC P md ops C Q fuel (listed.setIfInBounds k true) a' w') (picked ops [k]) a w) : anyC P md ops C Q (fuel + 1) listed a w := by
  obtain ⟨o, h0⟩ := Option.isSome_iff_exists.1 hk
  have e : picked ops [k] = [o] := by simp [picked, h0]
  rw [e] at h
  refine ⟨fun h1 => (by rw [hr] at h1; cases h1), fun i hi => ?_⟩
  rw [hr] at hi
  obtain rfl : i = k := by simpa using hi
  unfold opC
  simp only [h0]
  simp only [wpList] at h
  split
  · rename_i hw
    simp only [hw, if_true] at h
    rcases h with h | ⟨_, a', w', h, _⟩
    · refine wp_exits_normal (fun a w h => ⟨h.2.1, h.2.2⟩) ?_ h
      intro x a w hx h
      exact hx h.1
    · cases h
  · rename_i hw
    simp only [hw] at h
    exact ⟨hC, h.2.2⟩

/-- The region: the world behind the draw is of the class. -/
theorem wp_region_anyC {id : Nat} {Q' : Exit → Act → World → Prop} {a : Act} {w : World} {l : List Oper} {n : Nat} (C : World → Prop) (hm : P.follows .mixedOrders = true) (hn : l.length = n)
    (h : anyC P .any l.toArray C (fun a' w' => Q' .normal a' w') n (Array.replicate n false) a w.drew) : (Code.region id l.toArray true).wp P Q' a w := by
  subst hn
  refine wp_region_any hm ?_
  have := wpAny_of_anyC (Q' := Q') (fun a w h => h) _ _ _ _ h
  simpa using this
end
end Go.Proofs.YthbkncklliiooaaH
