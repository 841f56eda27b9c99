/-
  A region that draws its order: its plain operations, that yield the same in all worlds of a class, are taken as soon as they may be; its calls stand, by that, in one order, and each is walked in its own world.
-/
import Derived.Test.YtojlaekckkelhaaHeap
namespace Go.Proofs.Ytojlaekckkelhaa
set_option linter.unusedVariables false
set_option linter.unusedSimpArgs false

section
variable {P : Program} {ops : Array Oper} {md : Region.Mode} {C : World → Prop} {Q : Act → World → Prop}

/-- One operation, that yields a value, or calls a function that returns. -/
def stepC (P : Program) (o : Oper) (a : Act) (w : World) (K : Value → World → Prop) : Prop :=
  match (execOp a.eval o).run P w with
  | .ok (.value u) w' => K u w'
  | .ok .skip w' => K undef w'
  | .ok (.enter f args) w' => Calls P f args w' (fun e w'' => ∃ u, e = .returned u ∧ K u w'')
  | _ => False

theorem stepC_mono {o : Oper} {a : Act} {w : World} {K K' : Value → World → Prop} (h : ∀ u w, K u w → K' u w) (hh : stepC P o a w K) : stepC P o a w K' := by
  unfold stepC at *
  split at hh
  · exact h _ _ hh
  · exact h _ _ hh
  · exact hh.mono fun e w'' ⟨u, he, hk⟩ => ⟨u, he, h _ _ hk⟩
  · exact hh.elim

theorem stepC_wp {o : Oper} {a : Act} {w : World} {K : Value → World → Prop} {K' : Act → World → Prop} {Q' : Exit → Act → World → Prop} (h : ∀ u w, K u w → K' (a.put o.dst u) w) (hh : stepC P o a w K) : o.wp P a w K' Q' := by
  unfold stepC at hh
  unfold Oper.wp
  split at hh <;> rename_i hr
  · rw [hr]; exact h _ _ hh
  · rw [hr]; exact h _ _ hh
  · rw [hr]
    exact hh.mono fun e w'' ⟨u, he, hk⟩ => by subst he; exact h _ _ hk
  · exact hh.elim

def opC (P : Program) (ops : Array Oper) (C : World → Prop) (i : Nat) (K : Act → World → Prop) (a : Act) (w : World) : Prop :=
  match ops[i]? with
  | none => False
  | some o => if Region.wanted o (yielded ops a.tmps) then stepC P o a w (fun u w' => C w' ∧ K (a.put o.dst u) w') else C w ∧ K (a.put o.dst undef) w

theorem opC_mono {i : Nat} {a : Act} {w : World} {K K' : Act → World → Prop} (h : ∀ a w, C w → K a w → K' a w) (hh : opC P ops C i K a w) : opC P ops C i K' a w := by
  unfold opC at *
  split
  · simp_all
  · rename_i o ho
    simp only [ho] at hh
    split
    · rename_i hw; simp only [hw, if_true] at hh; exact stepC_mono (fun u w ⟨hc, hk⟩ => ⟨hc, h _ _ hc hk⟩) hh
    · rename_i hw; simp only [hw] at hh; exact ⟨hh.1, h _ _ hh.1 hh.2⟩

/-- Whatever order is picked from here on. -/
def anyC (P : Program) (md : Region.Mode) (ops : Array Oper) (C : World → Prop) (Q : Act → World → Prop) : Nat → Array Bool → Act → World → Prop
  | 0, listed, a, w => Region.ready md ops listed = [] ∧ Q a w
  | fuel + 1, listed, a, w => (Region.ready md ops listed = [] → Q a w) ∧ ∀ i ∈ Region.ready md ops listed, opC P ops C i (anyC P md ops C Q fuel (listed.setIfInBounds i true)) a w

theorem wpOp_of_opC {i : Nat} {a : Act} {w : World} {K K' : Act → World → Prop} {Q' : Exit → Act → World → Prop} (h : ∀ a w, C w → K a w → K' a w) (hh : opC P ops C i K a w) : wpOp P ops Q' i K' a w := by
  unfold opC at hh
  unfold wpOp
  split
  · simp_all
  · rename_i o ho
    simp only [ho] at hh
    split
    · rename_i hw; simp only [hw, if_true] at hh; exact .inl (stepC_wp (fun u w ⟨hc, hk⟩ => h _ _ hc hk) hh)
    · rename_i hw; simp only [hw] at hh; exact h _ _ hh.1 hh.2

theorem wpAny_of_anyC {Q' : Exit → Act → World → Prop} (hQ : ∀ a w, Q a w → Q' .normal a w) : ∀ (fuel : Nat) (listed : Array Bool) (a : Act) (w : World),
    anyC P md ops C Q fuel listed a w → wpAny P md ops Q' fuel listed a w
  | 0, _, _, _, h => ⟨h.1, hQ _ _ h.2⟩
  | fuel + 1, _, _, _, h => ⟨fun h0 => hQ _ _ (h.1 h0), fun i hi => wpOp_of_opC (fun a' w' _ => wpAny_of_anyC hQ fuel _ a' w') (h.2 i hi)⟩

/-- An operation that enters no function. -/
def plainOp (o : Oper) : Bool :=
  match o.op with
  | .move _ | .assign _ | .pick .. | .load .. | .fieldAddr .. | .field .. | .indexAddr .. | .binOp .. | .unOp .. | .extract .. => true
  | _ => false

theorem plain_run {o : Oper} (h : plainOp o = true) (e : Operand → Value) (w : World) (f : FuncId) (args : Array Value) (w' : World) : (execOp e o).run P w ≠ .ok (.enter f args) w' := by
  have key : ∀ {A : Type} (s : Sem A) (g : A → Value), (do let x ← s; pure (Next.value (g x)) : Sem Next).run P w ≠ .ok (.enter f args) w' := by
    intro A s g
    simp only [Sem.run_bind]
    cases s.run P w with
    | ok x w1 => simp [go_sem]
    | halt x w1 => simp
  unfold plainOp at h
  split at h <;> rename_i ho <;> simp only [execOp, ho]
  all_goals first | exact key _ (fun x => x) | exact key (asBool _) (fun x => if x = true then _ else _) | (simp [go_sem]; done) | exact absurd h (by simp)

theorem opC_of_yields {i : Nat} {oi : Oper} {v : Value} {a : Act} {w : World} (hi : ops[i]? = some oi) (hp : plainOp oi = true) (hy : YieldsIn P ops C oi v a) (hC : C w) {K : Act → World → Prop} (h : K (a.put oi.dst v) w) : opC P ops C i K a w := by
  unfold opC
  simp only [hi]
  rcases hy with ⟨hw, hv⟩ | ⟨hw, rfl⟩
  · simp only [hw, if_true]
    have h3 := hv w hC
    unfold Oper.quietAt at h3
    have h4 := plain_run (P := P) hp a.eval w
    unfold stepC
    generalize (execOp a.eval oi).run P w = r at *
    cases r with
    | ok n w' =>
      cases n <;> simp only [Oper.quietUpon] at h3
      case value u =>
        obtain ⟨e1, e2⟩ := h3
        subst e1; subst e2
        exact ⟨hC, h⟩
      case skip =>
        obtain ⟨e1, e2⟩ := h3
        subst e1; subst e2
        exact ⟨hC, h⟩
      case enter f args => exact absurd rfl (h4 f args w')
    | halt x w' => simp only [Oper.quietUpon] at h3
  · simp only [hw, Bool.false_eq_true, if_false]
    exact ⟨hC, h⟩

theorem opC_put {j : Nat} {oi oj : Oper} {v : Value} (hj : ops[j]? = some oj) (hap : oi.apart ops oj = true)
    (hsi : ∀ cs b, oi.op ≠ .select cs b) (hsj : ∀ cs b, oj.op ≠ .select cs b) {K : Act → World → Prop} {a : Act} {w : World}
    (hy : YieldsIn P ops C oi v a) (h : opC P ops C j K (a.put oi.dst v) w) :
    opC P ops C j (fun a' w' => YieldsIn P ops C oi v a' ∧ K (a'.put oi.dst v) w') a w := by
  obtain ⟨h1, h2, h3⟩ := Oper.apart_spec hap
  have keep : ∀ (a : Act), YieldsIn P ops C oi v a → ∀ u, YieldsIn P ops C oi v (a.put oj.dst u) := fun a hy u =>
    hy.of_same (execOp_put oi hsi a oj.dst u h3) (wanted_put oi a oj.dst u h3)
  unfold opC at *
  simp only [hj] at *
  rw [wanted_put oj a oi.dst v h1] at h
  split
  · rename_i hw
    simp only [hw, if_true] at h
    have h5 : stepC P oj a w (fun u w' => C w' ∧ K ((a.put oi.dst v).put oj.dst u) w') := by
      unfold stepC at *
      rwa [execOp_put oj hsj a oi.dst v h1] at h
    exact stepC_mono (fun u w' ⟨hc, hk⟩ => ⟨hc, keep a hy u, by rw [← Act.put_comm a v u h2]; exact hk⟩) h5
  · rename_i hw
    simp only [hw] at h
    exact ⟨h.1, keep a hy _, by rw [← Act.put_comm a v undef h2]; exact h.2⟩

/-- A plain operation that may come up now may be taken first. -/
theorem anyC_first {i : Nat} {oi : Oper} {v : Value} (hi : ops[i]? = some oi) (hp : plainOp oi = true) (hsel : ∀ (j : Nat) (o : Oper) cs b, ops[j]? = some o → o.op ≠ .select cs b) :
    ∀ (fuel : Nat) (listed : Array Bool) (a : Act) (w : World),
      (∀ j oj, ops[j]? = some oj → j ≠ i → listed.getD j true = false → (∀ e ∈ oj.after, Region.binds md e = true → e.on ≠ i) → oi.apart ops oj = true) →
      i ∈ Region.ready md ops listed → YieldsIn P ops C oi v a → C w →
      anyC P md ops C Q fuel (listed.setIfInBounds i true) (a.put oi.dst v) w → anyC P md ops C Q (fuel + 1) listed a w := by
  intro fuel
  induction fuel with
  | zero =>
    intro listed a w _ hr hy hC H
    refine ⟨fun h => (by rw [h] at hr; cases hr), fun j hj => ?_⟩
    by_cases hji : j = i
    · subst hji; exact opC_of_yields hi hp hy hC H
    · have := ready_mono hj hji
      rw [H.1] at this
      cases this
  | succ fuel ih =>
    intro listed a w hfree hr hy hC H
    refine ⟨fun h => (by rw [h] at hr; cases hr), fun j hj => ?_⟩
    by_cases hji : j = i
    · subst hji; exact opC_of_yields hi hp hy hC H
    · have h1 := H.2 j (ready_mono hj hji)
      obtain ⟨hjun, oj, hoj, hall⟩ := mem_ready.1 hj
      have hnot : ∀ e ∈ oj.after, Region.binds md e = true → e.on ≠ i := fun e he hb heq => by
        have h1 := hall e he hb
        have h0 := (mem_ready.1 hr).1
        rw [heq] at h1
        rcases Nat.lt_or_ge i listed.size with h' | h'
        · simp [h'] at h0 h1; rw [h0] at h1; cases h1
        · simp [Array.getElem?_eq_none h'] at h1
      have h2 := opC_put hoj (hfree j oj hoj hji hjun hnot) (fun cs b => hsel i oi cs b hi) (fun cs b => hsel j oj cs b hoj) hy h1
      have hfree' : ∀ k ok, ops[k]? = some ok → k ≠ i → (listed.setIfInBounds j true).getD k true = false →
          (∀ e ∈ ok.after, Region.binds md e = true → e.on ≠ i) → oi.apart ops ok = true := fun k ok hk hki hun hno => by
        refine hfree k ok hk hki ?_ hno
        by_cases hjk : j = k
        · subst hjk; exact hjun
        · rw [getD_set_ne true hjk] at hun; exact hun
      refine opC_mono (fun a' w' hc h3 => ih (listed.setIfInBounds j true) a' w' hfree' (ready_mono hr (Ne.symm hji)) h3.1 hc ?_) h2
      rw [Array.setIfInBounds_comm _ _ hji]
      exact h3.2

/-- The operations of these numbers. -/
def picked (ops : Array Oper) (ks : List Nat) : List Oper := ks.filterMap (ops[·]?)

/-- These may be taken, one by one, as soon as they stand in front. -/
def takesB (md : Region.Mode) (ops : Array Oper) : List Nat → Array Bool → Bool
  | [], _ => true
  | k :: ks, listed => (ops[k]?).any plainOp && (Region.ready md ops listed).contains k && Region.free md ops listed k && takesB md ops ks (listed.setIfInBounds k true)

theorem anyC_quiet (hs : Region.noSelect ops = true) (fuel : Nat) : ∀ (ks : List Nat) (listed : Array Bool) (a : Act) (w : World), takesB md ops ks listed = true → C w →
    wpQuiet P ops C (fun a' => anyC P md ops C Q fuel (ks.foldl (fun l k => l.setIfInBounds k true) listed) a' w) (picked ops ks) a → anyC P md ops C Q (fuel + ks.length) listed a w
  | [], _, _, _, _, _, h => h
  | k :: ks, listed, a, w, hB, hC, h => by
    simp only [takesB, Bool.and_eq_true, List.contains_iff_mem] at hB
    obtain ⟨⟨⟨hp, hr⟩, hf⟩, hB'⟩ := hB
    obtain ⟨o, h0⟩ : ∃ o, ops[k]? = some o := by
      cases ho : ops[k]? with
      | none => simp [ho] at hp
      | some o => exact ⟨o, rfl⟩
    have hp' : plainOp o = true := by simpa [h0] using hp
    have e : picked ops (k :: ks) = o :: picked ops ks := by simp [picked, h0]
    rw [e] at h
    have hst : qOp P ops C k (wpQuiet P ops C (fun a' => anyC P md ops C Q fuel ((k :: ks).foldl (fun l k => l.setIfInBounds k true) listed) a' w) (picked ops ks)) a := by unfold qOp; simp only [h0]; exact h
    obtain ⟨v, hy, hK⟩ := yieldsIn_of_qOp h0 hst
    exact anyC_first h0 hp' (Region.noSelect_spec hs) (fuel + ks.length) listed a w (Region.free_spec h0 hf) hr hy hC (anyC_quiet hs fuel ks _ _ _ hB' hC hK)

/-- A call that stands alone in front. -/
theorem anyC_alone {k : Nat} {o : Oper} {fuel : Nat} {listed : Array Bool} {a : Act} {w : World} (h0 : ops[k]? = some o) (hr : Region.ready md ops listed = [k])
    (hw : Region.wanted o (yielded ops a.tmps) = true) (h : stepC P o a w (fun u w' => C w' ∧ anyC P md ops C Q fuel (listed.setIfInBounds k true) (a.put o.dst u) w')) : anyC P md ops C Q (fuel + 1) listed a w := by
  refine ⟨fun h1 => (by rw [hr] at h1; cases h1), fun i hi => ?_⟩
  rw [hr] at hi
  obtain rfl : i = k := by simpa using hi
  unfold opC
  simp only [h0, hw, if_true]
  exact h

theorem stepC_call {o : Oper} {a : Act} {w : World} {K : Value → World → Prop} {f : FuncId} {args : Array Value} (hop : (execOp a.eval o).run P w = .ok (.enter f args) w) (h : Calls P f args w (fun e w'' => ∃ u, e = .returned u ∧ K u w'')) : stepC P o a w K := by
  unfold stepC
  rw [hop]
  exact h

/-- A call of a Go function that stands alone in front. -/
theorem anyC_call (k d : Nat) (f : FuncId) (args : Array Value) {o : Oper} {fuel : Nat} {listed : Array Bool} {a : Act} {w : World} (h0 : ops[k]? = some o) (hr : Region.ready md ops listed = [k])
    (hw : Region.wanted o (yielded ops a.tmps) = true) (hd : o.dst = some d) (hop : (execOp a.eval o).run P w = .ok (.enter f args) w)
    (h : Calls P f args w (fun e w'' => ∃ u, e = .returned u ∧ C w'' ∧ anyC P md ops C Q fuel (listed.setIfInBounds k true) (a.put (some d) u) w'')) : anyC P md ops C Q (fuel + 1) listed a w := by
  refine anyC_alone h0 hr hw (stepC_call hop ?_)
  rw [hd]
  exact h

/-- The region: all numbers are below its size, the world behind the draw is of the class. -/
theorem wp_region_anyC {id : Nat} {Q' : Exit → Act → World → Prop} {a : Act} {w : World} {l : List Oper} {n : Nat} (C : World → Prop) (hm : P.follows .mixedOrders = true) (hn : l.length = n)
    (h : anyC P .any l.toArray C (fun a' w' => Q' .normal a' w') n (Array.replicate n false) a w.drew) : (Code.region id l.toArray true).wp P Q' a w := by
  subst hn
  refine wp_region_any hm ?_
  have := wpAny_of_anyC (Q' := Q') (fun a w h => h) _ _ _ _ h
  simpa using this
end
end Go.Proofs.Ytojlaekckkelhaa
