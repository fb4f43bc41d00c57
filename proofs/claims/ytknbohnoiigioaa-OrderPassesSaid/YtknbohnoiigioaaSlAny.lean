/-
  Own work: the small logic, more of its rules; of any program.
-/
import Derived.Test.YtknbohnoiigioaaSlMore
set_option linter.all false
set_option linter.unusedSimpArgs false
set_option linter.unusedVariables false
namespace Go.Sl
open Go.RowKit
/-! ## Regions that draw their order: operations that read memory are taken first, as long as all others leave what they read -/
section
variable {P : Program} {ops : Array Oper} {C : World → Prop} {Q : Exit → Act → World → Prop}
/-- every order from here on, and 'C' holds all the way -/
def anyC (P : Program) (ops : Array Oper) (C : World → Prop) (Q : Exit → Act → World → Prop) : Nat → Array Bool → Act → World → Prop
  | 0, l, a, w => C w ∧ Region.ready .any ops l = [] ∧ Q .normal a w
  | f + 1, l, a, w => C w ∧ (Region.ready .any ops l = [] → Q .normal a w) ∧ ∀ i ∈ Region.ready .any ops l, wpOpIn (fen none) 0 P ops Q i (anyC P ops C Q f (l.setIfInBounds i true)) a w
theorem anyC.here {f : Nat} {l : Array Bool} {a : Act} {w : World} (h : anyC P ops C Q f l a w) : C w := by
  cases f <;> exact h.1
theorem anyC.any : ∀ {f : Nat} {l : Array Bool} {a : Act} {w : World}, anyC P ops C Q f l a w → wpAnyIn (fen none) 0 P .any ops Q f l a w
  | 0, _, _, _, h => h.2
  | f + 1, _, _, _, h => ⟨h.2.1, fun i hi => wpOpIn_mono (fun _ _ h => h.any) (h.2.2 i hi)⟩
/-- what an operation yields in every world of the class -/
structure TakesC (P : Program) (ops : Array Oper) (C : World → Prop) (o : Oper) (v : Value) (a : Act) : Prop where
  wanted : Region.wanted o (yielded ops a.tmps) = true
  run : ∀ w, C w → (execOp a.eval o).run P w = .ok (.value v) w
  about : ∀ w, C w → o.about P w a.eval = none
structure PassC (P : Program) (ops : Array Oper) (o o' : Oper) (a a' : Act) : Prop where
  run : execOp a'.eval o = execOp a.eval o
  wanted : Region.wanted o (yielded ops a'.tmps) = Region.wanted o (yielded ops a.tmps)
  about : ∀ w, o.about P w a'.eval = o.about P w a.eval
theorem TakesC.pass {o o' : Oper} {v : Value} {a a' : Act} (h : TakesC P ops C o v a) (hs : PassC P ops o o' a a') : TakesC P ops C o v a' :=
  ⟨hs.wanted.trans h.wanted, fun w hw => by rw [hs.run]; exact h.run w hw, fun w hw => by rw [hs.about]; exact h.about w hw⟩
theorem TakesC.op {i : Nat} {o : Oper} {v : Value} {a : Act} {w : World} {K : Act → World → Prop} (hi : ops[i]? = some o) (hy : TakesC P ops C o v a) (hw : C w) (h : K (a.put o.dst v) w) : wpOpIn (fen none) 0 P ops Q i K a w := by
  unfold Go.wpOpIn
  simp only [hi, hy.wanted, if_true, Oper.wpIn, Oper.semAt_none, hy.run w hw, Oper.uponIn]
  exact ⟨fun f hf => (by rw [hy.about w hw] at hf; cases hf), h⟩
theorem op_putC {j : Nat} {oi oj : Oper} {v : Value} (hj : ops[j]? = some oj) (hap : oi.apart ops oj = true) (hsi : ∀ cs b, oi.op ≠ .select cs b) (hsj : ∀ cs b, oj.op ≠ .select cs b)
    (hQ : ∀ c a w, Q (.panic c) (a.put oi.dst v) w → Q (.panic c) a w) {K : Act → World → Prop} {a : Act} {w : World} (h : wpOpIn (fen none) 0 P ops Q j K (a.put oi.dst v) w) :
    wpOpIn (fen none) 0 P ops Q j (fun a' w' => PassC P ops oi oj a a' ∧ K (a'.put oi.dst v) w') a w := by
  obtain ⟨h1, h2, h3⟩ := Oper.apart_spec hap
  have keep : ∀ u, PassC P ops oi oj a (a.put oj.dst u) := fun u => ⟨execOp_put oi hsi a oj.dst u h3, wanted_put oi a oj.dst u h3, fun w => about_put oi w a oj.dst u h3⟩
  have keepD : ∀ d u, PassC P ops oi oj a (Act.put { a with defers := d :: a.defers } oj.dst u) := fun d u => by
    have h := (⟨execOp_put oi hsi { a with defers := d :: a.defers } oj.dst u h3, wanted_put oi { a with defers := d :: a.defers } oj.dst u h3, fun w => about_put oi w { a with defers := d :: a.defers } oj.dst u h3⟩ : PassC P ops oi oj { a with defers := d :: a.defers } _)
    exact ⟨h.run, h.wanted, h.about⟩
  unfold wpOpIn at *
  simp only [hj] at *
  rw [wanted_put oj a oi.dst v h1, about_put oj w a oi.dst v h1] at h
  split
  · rename_i hw
    simp only [hw, if_true] at h
    unfold Oper.wpIn at *
    rw [about_put oj w a oi.dst v h1] at h
    refine ⟨h.1, ?_⟩
    have h := h.2
    rw [Oper.semAt_none, execOp_put oj hsj a oi.dst v h1] at h
    rw [Oper.semAt_none]
    generalize (execOp a.eval oj).run P w = r at *
    cases r with
    | ok x w' =>
      cases x <;> simp only [Oper.uponIn] at h ⊢
      case value u => exact ⟨keep u, by rw [← Act.put_comm a v u h2]; exact h⟩
      case skip => exact ⟨keep _, by rw [← Act.put_comm a v undef h2]; exact h⟩
      case defer d =>
        refine ⟨keepD d _, ?_⟩
        rw [← Act.put_comm _ v undef h2, ← Act.put_defers]
        exact h
      case enter f args =>
        refine ⟨h.1, CallsIn.mono h.2 fun e w'' he => ?_⟩
        cases e with
        | returned u => exact ⟨keep u, by rw [← Act.put_comm a v u h2]; exact he⟩
        | panicked c => exact hQ _ _ _ he
        | outgrown => exact he
      case row row args => exact ⟨h.1, RowsIn.mono h.2 fun u w'' he => ⟨keep u, by rw [← Act.put_comm a v u h2]; exact he⟩⟩
      case round l f tmps assign body =>
        refine ⟨h.1, RoundIn.mono h.2 fun e w'' he => ?_⟩
        cases e with
        | returned u => exact ⟨keep u, by rw [← Act.put_comm a v u h2]; exact he⟩
        | panicked c => exact hQ _ _ _ he
        | outgrown => exact he
    | halt x w' =>
      cases x <;> simp only [Oper.uponIn] at h ⊢
      case panic u => exact hQ _ _ _ h
  · rename_i hw
    simp only [hw] at h
    exact ⟨h.1, keep _, by rw [← Act.put_comm a v undef h2]; exact h.2⟩
theorem anyC_first {i : Nat} {oi : Oper} {v : Value} (hi : ops[i]? = some oi) (hsel : ∀ (j : Nat) (o : Oper) cs b, ops[j]? = some o → o.op ≠ .select cs b) (hQ : ∀ c a w, Q (.panic c) (a.put oi.dst v) w → Q (.panic c) a w) :
    ∀ (f : Nat) (l : Array Bool) (a : Act) (w : World),
      (∀ j oj, ops[j]? = some oj → j ≠ i → l.getD j true = false → (∀ e ∈ oj.after, Region.binds .any e = true → e.on ≠ i) → oi.apart ops oj = true) →
      i ∈ Region.ready .any ops l → TakesC P ops C oi v a → anyC P ops C Q f (l.setIfInBounds i true) (a.put oi.dst v) w → anyC P ops C Q (f + 1) l a w := by
  intro f
  induction f with
  | zero =>
    intro l a w _ hr hy H
    refine ⟨H.1, fun h => (by rw [h] at hr; cases hr), fun j hj => ?_⟩
    by_cases hji : j = i
    · subst hji; exact hy.op hi H.1 H
    · have := ready_mono hj hji
      rw [H.2.1] at this
      cases this
  | succ f ih =>
    intro l a w hfree hr hy H
    refine ⟨H.1, fun h => (by rw [h] at hr; cases hr), fun j hj => ?_⟩
    by_cases hji : j = i
    · subst hji; exact hy.op hi H.1 H
    · have h1 := H.2.2 j (ready_mono hj hji)
      obtain ⟨hjun, oj, hoj, hall⟩ := mem_ready.1 hj
      have hnot : ∀ e ∈ oj.after, Region.binds .any e = true → e.on ≠ i := fun e he hb heq => by
        have h1 := hall e he hb
        have h0 := (mem_ready.1 hr).1
        rw [heq] at h1
        rcases Nat.lt_or_ge i l.size with h' | h'
        · simp [h'] at h0 h1; rw [h0] at h1; cases h1
        · simp [Array.getElem?_eq_none h'] at h1
      have h2 := op_putC hoj (hfree j oj hoj hji hjun hnot) (fun cs b => hsel i oi cs b hi) (fun cs b => hsel j oj cs b hoj) hQ h1
      have hfree' : ∀ k ok, ops[k]? = some ok → k ≠ i → (l.setIfInBounds j true).getD k true = false →
          (∀ e ∈ ok.after, Region.binds .any e = true → e.on ≠ i) → oi.apart ops ok = true := fun k ok hk hki hun hno => by
        refine hfree k ok hk hki ?_ hno
        by_cases hjk : j = k
        · subst hjk; exact hjun
        · rw [getD_set_ne true hjk] at hun; exact hun
      refine wpOpIn_mono (fun a' w' h3 => ih (l.setIfInBounds j true) a' w' hfree' (ready_mono hr (Ne.symm hji)) (hy.pass h3.1) ?_) h2
      rw [Array.setIfInBounds_comm _ _ hji]
      exact h3.2
end
section
variable {P : Program} {w0 : World} {Q : Exit → Act → World → Prop} {n : Nat} {ds : List Deferred} {k : List It} {env env' : Env} {H H' Hc : Heap} {ops : Array Oper}
/-- any order; what is read lies in 'Hc' -/
def WC (P : Program) (w0 : World) (Q : Exit → Act → World → Prop) (n : Nat) (ds : List Deferred) (k : List It) (ops : Array Oper) (Hc : Heap) (fuel : Nat) (listed : Array Bool) (env : Env) (H : Heap) : Prop :=
  ∀ a w, Agree n env a → a.defers = ds → Sat w0 H w → anyC P ops (Sat w0 Hc) (Q0 P Q k) fuel listed a w
theorem W_anyC {id : Nat} {l : List Oper} (Hc : Heap) (hm : P.follows .mixedOrders = true) (h : WC P w0 Q n ds k l.toArray Hc l.length (Array.replicate l.length false) env H) : W P none w0 Q n ds (.code (.region id l.toArray true) :: k) env H := by
  intro a w ha hd hs
  show (Code.region id l.toArray true).wpIn (fen none) 0 P (Cont P none Q k) a w
  exact wpIn_mono (wpIn_region_any hm (by simpa using (h a _ ha hd hs.drew).any)) fun _ _ _ => Q0_of
theorem W_anyCsr {id : Nat} {l : List Oper} {y : Code} (Hc : Heap) (hm : P.follows .mixedOrders = true) (h : WC P w0 Q n ds (.code y :: k) l.toArray Hc l.length (Array.replicate l.length false) env H) : W P none w0 Q n ds (.code (.seq (.region id l.toArray true) y) :: k) env H :=
  W_seq (W_anyC Hc hm h)
theorem WC_done {fuel : Nat} {listed : Array Bool} (hh : HSub H Hc) (hr : Region.ready .any ops listed = []) (h : W P none w0 Q n ds k env H) : WC P w0 Q n ds k ops Hc fuel listed env H := fun a w ha hd hs => by
  have hq : Q0 P Q k .normal a w := h a w ha hd hs
  cases fuel with
  | zero => exact ⟨hs.hsub hh, hr, hq⟩
  | succ f => exact ⟨hs.hsub hh, fun _ => hq, by rw [hr]; simp⟩
/-- it calls no function -/
def NoCall : Op → Bool
  | .call ⟨.builtin _, _, _⟩ => true
  | .call _ => false
  | _ => true
theorem about_nocall {o : Oper} (h : NoCall o.op = true) (w : World) (ρ : Operand → Value) : o.about P w ρ = none := by
  unfold Oper.about
  cases ho : o.op <;> first | rfl | skip
  rename_i c
  obtain ⟨c, args, tys⟩ := c
  rw [ho] at h
  cases c with
  | builtin b => simp [resolve, Result.andThen, Target.leads]
  | _ => simp [NoCall] at h
theorem WC_take (i : Nat) {op : Op} {ty : TypeId} {v : Value} {d : Nat} {pos : String} {aft : Array Edge} {fuel : Nat} {listed l' : Array Bool} (hi : ops[i]? = some ⟨some d, op, ty, pos, aft, none⟩) (hs : Region.noSelect ops = true) (hf : Region.free .any ops listed i = true) (hr : (Region.ready .any ops listed).contains i = true)
    (hcall : NoCall op = true) (hl : listed.setIfInBounds i true = l') (hx : Ex P n env (Sat w0 Hc) op ty v) (hd : Nat.blt d n = true)
    (h : WC P w0 Q n ds k ops Hc fuel l' ((d, v) :: env) H) : WC P w0 Q n ds k ops Hc (fuel + 1) listed env H := fun a w ha hds hsat => by
  subst hl
  exact anyC_first hi (Region.noSelect_spec hs) (fun _ _ _ hq => hq.elim) fuel listed a w (Region.free_spec hi hf) (by simpa using hr)
    ⟨by simp [Region.wanted], fun w hw => hx a w _ _ _ _ ha hw, fun w _ => about_nocall hcall w _⟩ (h _ w (ha.put (d := some d) hd) hds hsat)
theorem wc_op {i : Nat} {o : Oper} {K : Act → World → Prop} {a : Act} {w : World} (hi : ops[i]? = some o) (h1 : wpListIn (fen none) 0 P ops (Cont P none (fun _ _ _ => False) [.goal K]) [o] a w) : wpOpIn (fen none) 0 P ops (Q0 P Q k) i K a w := by
  unfold wpOpIn
  rw [hi]
  unfold wpListIn at h1
  show if _ then _ else _
  split
  · rename_i hw
    rw [if_pos hw] at h1
    unfold Oper.wpIn
    refine ⟨h1.1, ?_⟩
    have h2 := h1.2
    generalize (o.semAt (fen none).round a.eval).run P w = r at h2 ⊢
    cases r with
    | ok x w' =>
      cases x <;> simp only [Oper.uponIn] at h2 ⊢ <;>
        first
          | exact h2
          | exact ⟨h2.1, CallsIn.mono h2.2 (fun e w'' he => by cases e <;> first | exact he | exact he.elim | (obtain ⟨_, _, hf⟩ := he; exact hf.elim))⟩
          | exact ⟨h2.1, RowsIn.mono h2.2 (fun _ _ he => he)⟩
          | exact ⟨h2.1, RoundIn.mono h2.2 (fun e w'' he => by cases e <;> first | exact he | exact he.elim | (obtain ⟨_, _, hf⟩ := he; exact hf.elim))⟩
    | halt x w' => cases x <;> simp only [Oper.uponIn] at h2 ⊢ <;> first | exact h2 | exact h2.elim
  · rename_i hw
    rw [if_neg hw] at h1
    exact h1
/-- only one is ready: it is walked as ever -/
theorem WC_one (i : Nat) {o : Oper} {fuel : Nat} {listed l' : Array Bool} (hh : HSub H Hc) (hr : Region.ready .any ops listed = [i]) (hi : ops[i]? = some o) (hl : listed.setIfInBounds i true = l')
    (h : W P none w0 (fun _ _ _ => False) n ds [.ops ops [o], .goal (fun a w => anyC P ops (Sat w0 Hc) (Q0 P Q k) fuel l' a w)] env H) : WC P w0 Q n ds k ops Hc (fuel + 1) listed env H := fun a w ha hds hsat => by
  subst hl
  refine ⟨hsat.hsub hh, fun h0 => (by rw [hr] at h0; cases h0), fun j hj => ?_⟩
  rw [hr] at hj
  obtain rfl : j = i := by simpa using hj
  exact wc_op hi (h a w ha hds hsat)
theorem WC_two (i j : Nat) {o o' : Oper} {fuel : Nat} {listed l' l'' : Array Bool} (hh : HSub H Hc) (hr : Region.ready .any ops listed = [i, j]) (hi : ops[i]? = some o) (hj : ops[j]? = some o') (hl : listed.setIfInBounds i true = l') (hl' : listed.setIfInBounds j true = l'')
    (h : W P none w0 (fun _ _ _ => False) n ds [.ops ops [o], .goal (fun a w => anyC P ops (Sat w0 Hc) (Q0 P Q k) fuel l' a w)] env H)
    (h' : W P none w0 (fun _ _ _ => False) n ds [.ops ops [o'], .goal (fun a w => anyC P ops (Sat w0 Hc) (Q0 P Q k) fuel l'' a w)] env H) : WC P w0 Q n ds k ops Hc (fuel + 1) listed env H := fun a w ha hds hsat => by
  subst hl hl'
  refine ⟨hsat.hsub hh, fun h0 => (by rw [hr] at h0; cases h0), fun x hx => ?_⟩
  rw [hr] at hx
  rcases (show x = i ∨ x = j by simpa using hx) with rfl | rfl
  · exact wc_op hi (h a w ha hds hsat)
  · exact wc_op hj (h' a w ha hds hsat)
theorem WC_goal {fuel : Nat} {l' : Array Bool} {k' : List It} {Q' : Exit → Act → World → Prop} (h : WC P w0 Q n ds k ops Hc fuel l' env H) : W P none w0 Q' n ds (.goal (fun a w => anyC P ops (Sat w0 Hc) (Q0 P Q k) fuel l' a w) :: k') env H :=
  W_goal fun a w ha hd hs => h a w ha hd hs
/-- the ways of a piece of code meet again -/
theorem W_cut {c : Code} (env' : Env) (H' : Heap) (h1 : W P none w0 (fun _ _ _ => False) n ds [.code c, .goal (JoinJ w0 n ds env' H')] env H) (h : W P none w0 Q n ds k env' H') : W P none w0 Q n ds (.code c :: k) env H := fun a w ha hd hs => by
  show c.wpIn (fen none) 0 P (Cont P none Q k) a w
  refine wpIn_mono (h1 a w ha hd hs) fun e a2 w2 hq => ?_
  cases e with
  | normal => exact h a2 w2 hq.1 hq.2.1 hq.2.2
  | exit id => exact hq.elim
  | goto l => exact hq.elim
  | ret => exact hq.elim
  | panic ch => exact hq.elim
  | outgrown => exact hq.elim
end
end Go.Sl
