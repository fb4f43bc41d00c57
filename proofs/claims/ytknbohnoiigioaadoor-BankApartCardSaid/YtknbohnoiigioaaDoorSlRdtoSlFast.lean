/-
  Own work: the small logic, more of its rules; of any program.
-/
import Derived.Test.YtknbohnoiigioaaDoorSlPtrtoSlRead
set_option linter.all false
set_option linter.unusedSimpArgs false
set_option linter.unusedVariables false
namespace Go.Sl.Rd
open Go.RowKit
/-! ## Regions that draw their order, within a round of a loop over a function too -/
def noDefer (ops : Array Oper) : Bool := ops.all fun o => match o.op with | .defer _ => false | _ => true
theorem noDefer_spec {ops : Array Oper} (h : noDefer ops = true) (j : Nat) (o : Oper) (hj : ops[j]? = some o) (c : Call) : o.op ≠ .defer c := fun e => by
  have := Array.all_eq_true'.1 h o (Array.mem_of_getElem? hj)
  rw [e] at this; cases this
def Q0 (rd : Option Nat) (P : Program) (Q : Exit → Act → World → Prop) (k : List It) : Exit → Act → World → Prop
  | .normal, a, w => Cont P rd Q k .normal a w
  | _, _, _ => False
theorem Q0_of {rd : Option Nat} {P : Program} {Q : Exit → Act → World → Prop} {k : List It} {e : Exit} {a : Act} {w : World} (h : Q0 rd P Q k e a w) : Cont P rd Q k e a w := by cases e <;> first | exact h | exact h.elim
/-! ## Regions that draw their order: operations that read memory are taken first, as long as all others leave what they read -/
section
variable {rd : Option Nat} {P : Program} {ops : Array Oper} {C : World → Prop} {Q : Exit → Act → World → Prop}
/-- every order from here on, and 'C' holds all the way -/
def anyC (rd : Option Nat) (P : Program) (ops : Array Oper) (C : World → Prop) (Q : Exit → Act → World → Prop) : Nat → Array Bool → Act → World → Prop
  | 0, l, a, w => C w ∧ Region.ready .any ops l = [] ∧ Q .normal a w
  | f + 1, l, a, w => C w ∧ (Region.ready .any ops l = [] → Q .normal a w) ∧ ∀ i ∈ Region.ready .any ops l, wpOpIn (fen rd) 0 P ops Q i (anyC rd P ops C Q f (l.setIfInBounds i true)) a w
theorem anyC.here {f : Nat} {l : Array Bool} {a : Act} {w : World} (h : anyC rd P ops C Q f l a w) : C w := by
  cases f <;> exact h.1
theorem anyC.any : ∀ {f : Nat} {l : Array Bool} {a : Act} {w : World}, anyC rd P ops C Q f l a w → wpAnyIn (fen rd) 0 P .any ops Q f l a w
  | 0, _, _, _, h => h.2
  | f + 1, _, _, _, h => ⟨h.2.1, fun i hi => wpOpIn_mono (fun _ _ h => h.any) (h.2.2 i hi)⟩
theorem takes_op {i : Nat} {o : Oper} {v : Value} {a : Act} {w : World} {K : Act → World → Prop} (hi : ops[i]? = some o) (hnd : ∀ c, o.op ≠ .defer c) (hy : TakesC P ops C o v a) (hw : C w) (h : K (a.put o.dst v) w) : wpOpIn (fen rd) 0 P ops Q i K a w := by
  unfold Go.wpOpIn
  simp only [hi, hy.wanted, if_true, Oper.wpIn, Oper.semAt_eq _ _ _ hnd, hy.run w hw, Oper.uponIn]
  exact ⟨fun f hf => (by rw [hy.about w hw] at hf; cases hf), h⟩
theorem op_putC {j : Nat} {oi oj : Oper} {v : Value} (hj : ops[j]? = some oj) (hnd : ∀ c, oj.op ≠ .defer c) (hap : oi.apart ops oj = true) (hsi : ∀ cs b, oi.op ≠ .select cs b) (hsj : ∀ cs b, oj.op ≠ .select cs b)
    (hQ : ∀ c a w, Q (.panic c) (a.put oi.dst v) w → Q (.panic c) a w) {K : Act → World → Prop} {a : Act} {w : World} (h : wpOpIn (fen rd) 0 P ops Q j K (a.put oi.dst v) w) :
    wpOpIn (fen rd) 0 P ops Q j (fun a' w' => PassC P ops oi oj a a' ∧ K (a'.put oi.dst v) w') a w := by
  obtain ⟨h1, h2, h3⟩ := Oper.apart_spec hap
  have keep : ∀ u, PassC P ops oi oj a (a.put oj.dst u) := fun u => ⟨execOp_put oi hsi a oj.dst u h3, wanted_put oi a oj.dst u h3, fun w => about_put oi w a oj.dst u h3⟩
  have keepD : ∀ d u, PassC P ops oi oj a (Act.put { a with defers := d :: a.defers } oj.dst u) := fun d u => by
    have h := (⟨execOp_put oi hsi { a with defers := d :: a.defers } oj.dst u h3, wanted_put oi { a with defers := d :: a.defers } oj.dst u h3, fun w => about_put oi w { a with defers := d :: a.defers } oj.dst u h3⟩ : PassC P ops oi oj { a with defers := d :: a.defers } _)
    exact ⟨h.run, h.wanted, h.about⟩
  unfold wpOpIn at *
  simp only [hj] at *
  rw [wanted_put oj a oi.dst v h1, about_put oj w a oi.dst v h1] at h
  split
  · rename_i hw
    simp only [hw, if_true] at h
    unfold Oper.wpIn at *
    rw [about_put oj w a oi.dst v h1] at h
    refine ⟨h.1, ?_⟩
    have h := h.2
    rw [Oper.semAt_eq _ _ _ hnd, execOp_put oj hsj a oi.dst v h1] at h
    rw [Oper.semAt_eq _ _ _ hnd]
    generalize (execOp a.eval oj).run P w = r at *
    cases r with
    | ok x w' =>
      cases x <;> simp only [Oper.uponIn] at h ⊢
      case value u => exact ⟨keep u, by rw [← Act.put_comm a v u h2]; exact h⟩
      case skip => exact ⟨keep _, by rw [← Act.put_comm a v undef h2]; exact h⟩
      case defer d =>
        refine ⟨keepD d _, ?_⟩
        rw [← Act.put_comm _ v undef h2, ← Act.put_defers]
        exact h
      case enter f args =>
        refine ⟨h.1, CallsIn.mono h.2 fun e w'' he => ?_⟩
        cases e with
        | returned u => exact ⟨keep u, by rw [← Act.put_comm a v u h2]; exact he⟩
        | panicked c => exact hQ _ _ _ he
        | outgrown => exact he
      case row row args => exact ⟨h.1, RowsIn.mono h.2 fun u w'' he => ⟨keep u, by rw [← Act.put_comm a v u h2]; exact he⟩⟩
      case round l f tmps assign body =>
        refine ⟨h.1, RoundIn.mono h.2 fun e w'' he => ?_⟩
        cases e with
        | returned u => exact ⟨keep u, by rw [← Act.put_comm a v u h2]; exact he⟩
        | panicked c => exact hQ _ _ _ he
        | outgrown => exact he
    | halt x w' =>
      cases x <;> simp only [Oper.uponIn] at h ⊢
      case panic u => exact hQ _ _ _ h
  · rename_i hw
    simp only [hw] at h
    exact ⟨h.1, keep _, by rw [← Act.put_comm a v undef h2]; exact h.2⟩
theorem anyC_first {i : Nat} {oi : Oper} {v : Value} (hi : ops[i]? = some oi) (hsel : ∀ (j : Nat) (o : Oper) cs b, ops[j]? = some o → o.op ≠ .select cs b) (hnd : ∀ (j : Nat) (o : Oper), ops[j]? = some o → ∀ c, o.op ≠ .defer c) (hQ : ∀ c a w, Q (.panic c) (a.put oi.dst v) w → Q (.panic c) a w) :
    ∀ (f : Nat) (l : Array Bool) (a : Act) (w : World),
      (∀ j oj, ops[j]? = some oj → j ≠ i → l.getD j true = false → (∀ e ∈ oj.after, Region.binds .any e = true → e.on ≠ i) → oi.apart ops oj = true) →
      i ∈ Region.ready .any ops l → TakesC P ops C oi v a → anyC rd P ops C Q f (l.setIfInBounds i true) (a.put oi.dst v) w → anyC rd P ops C Q (f + 1) l a w := by
  intro f
  induction f with
  | zero =>
    intro l a w _ hr hy H
    refine ⟨H.1, fun h => (by rw [h] at hr; cases hr), fun j hj => ?_⟩
    by_cases hji : j = i
    · subst hji; exact takes_op hi (hnd _ _ hi) hy H.1 H
    · have := ready_mono hj hji
      rw [H.2.1] at this
      cases this
  | succ f ih =>
    intro l a w hfree hr hy H
    refine ⟨H.1, fun h => (by rw [h] at hr; cases hr), fun j hj => ?_⟩
    by_cases hji : j = i
    · subst hji; exact takes_op hi (hnd _ _ hi) hy H.1 H
    · have h1 := H.2.2 j (ready_mono hj hji)
      obtain ⟨hjun, oj, hoj, hall⟩ := mem_ready.1 hj
      have hnot : ∀ e ∈ oj.after, Region.binds .any e = true → e.on ≠ i := fun e he hb heq => by
        have h1 := hall e he hb
        have h0 := (mem_ready.1 hr).1
        rw [heq] at h1
        rcases Nat.lt_or_ge i l.size with h' | h'
        · simp [h'] at h0 h1; rw [h0] at h1; cases h1
        · simp [Array.getElem?_eq_none h'] at h1
      have h2 := op_putC hoj (hnd _ _ hoj) (hfree j oj hoj hji hjun hnot) (fun cs b => hsel i oi cs b hi) (fun cs b => hsel j oj cs b hoj) hQ h1
      have hfree' : ∀ k ok, ops[k]? = some ok → k ≠ i → (l.setIfInBounds j true).getD k true = false →
          (∀ e ∈ ok.after, Region.binds .any e = true → e.on ≠ i) → oi.apart ops ok = true := fun k ok hk hki hun hno => by
        refine hfree k ok hk hki ?_ hno
        by_cases hjk : j = k
        · subst hjk; exact hjun
        · rw [getD_set_ne true hjk] at hun; exact hun
      refine wpOpIn_mono (fun a' w' h3 => ih (l.setIfInBounds j true) a' w' hfree' (ready_mono hr (Ne.symm hji)) (hy.pass h3.1) ?_) h2
      rw [Array.setIfInBounds_comm _ _ hji]
      exact h3.2
end
section
variable {rd : Option Nat} {P : Program} {w0 : World} {Q : Exit → Act → World → Prop} {n : Nat} {ds : List Deferred} {k : List It} {env env' : Env} {H H' Hc : Heap} {ops : Array Oper}
/-- any order; what is read lies in 'Hc' -/
def WC (rd : Option Nat) (P : Program) (w0 : World) (Q : Exit → Act → World → Prop) (n : Nat) (ds : List Deferred) (k : List It) (ops : Array Oper) (Hc : Heap) (fuel : Nat) (listed : Array Bool) (env : Env) (H : Heap) : Prop :=
  ∀ a w, Agree n env a → a.defers = ds → Sat w0 H w → anyC rd P ops (Sat w0 Hc) (Q0 rd P Q k) fuel listed a w
theorem W_anyC {id : Nat} {l : List Oper} (Hc : Heap) (hm : P.follows .mixedOrders = true) (h : WC rd P w0 Q n ds k l.toArray Hc l.length (Array.replicate l.length false) env H) : W P rd w0 Q n ds (.code (.region id l.toArray true) :: k) env H := by
  intro a w ha hd hs
  show (Code.region id l.toArray true).wpIn (fen rd) 0 P (Cont P rd Q k) a w
  exact wpIn_mono (wpIn_region_any hm (by simpa using (h a _ ha hd hs.drew).any)) fun _ _ _ => Q0_of
theorem W_anyCsr {id : Nat} {l : List Oper} {y : Code} (Hc : Heap) (hm : P.follows .mixedOrders = true) (h : WC rd P w0 Q n ds (.code y :: k) l.toArray Hc l.length (Array.replicate l.length false) env H) : W P rd w0 Q n ds (.code (.seq (.region id l.toArray true) y) :: k) env H :=
  W_seq (W_anyC Hc hm h)
theorem WC_done {fuel : Nat} {listed : Array Bool} (hh : HSub H Hc) (hr : Region.ready .any ops listed = []) (h : W P rd w0 Q n ds k env H) : WC rd P w0 Q n ds k ops Hc fuel listed env H := fun a w ha hd hs => by
  have hq : Q0 rd P Q k .normal a w := h a w ha hd hs
  cases fuel with
  | zero => exact ⟨hs.hsub hh, hr, hq⟩
  | succ f => exact ⟨hs.hsub hh, fun _ => hq, by rw [hr]; simp⟩
theorem WC_take (i : Nat) {op : Op} {ty : TypeId} {v : Value} {d : Nat} {pos : String} {aft : Array Edge} {fuel : Nat} {listed l' : Array Bool} (hi : ops[i]? = some ⟨some d, op, ty, pos, aft, none⟩) (hs : Region.noSelect ops = true) (hnd : noDefer ops = true) (hf : Region.free .any ops listed i = true) (hr : (Region.ready .any ops listed).contains i = true)
    (hcall : NoCall op = true) (hl : listed.setIfInBounds i true = l') (hx : Ex P n env (Sat w0 Hc) op ty v) (hd : Nat.blt d n = true)
    (h : WC rd P w0 Q n ds k ops Hc fuel l' ((d, v) :: env) H) : WC rd P w0 Q n ds k ops Hc (fuel + 1) listed env H := fun a w ha hds hsat => by
  subst hl
  exact anyC_first hi (Region.noSelect_spec hs) (noDefer_spec hnd) (fun _ _ _ hq => hq.elim) fuel listed a w (Region.free_spec hi hf) (by simpa using hr)
    ⟨by simp [Region.wanted], fun w hw => hx a w _ _ _ _ ha hw, fun w _ => about_nocall hcall w _⟩ (h _ w (ha.put (d := some d) hd) hds hsat)
theorem wc_op {i : Nat} {o : Oper} {K : Act → World → Prop} {a : Act} {w : World} (hi : ops[i]? = some o) (h1 : wpListIn (fen rd) 0 P ops (Cont P rd (fun _ _ _ => False) [.goal K]) [o] a w) : wpOpIn (fen rd) 0 P ops (Q0 rd P Q k) i K a w := by
  unfold wpOpIn
  rw [hi]
  unfold wpListIn at h1
  show if _ then _ else _
  split
  · rename_i hw
    rw [if_pos hw] at h1
    unfold Oper.wpIn
    refine ⟨h1.1, ?_⟩
    have h2 := h1.2
    generalize (o.semAt (fen rd).round a.eval).run P w = r at h2 ⊢
    cases r with
    | ok x w' =>
      cases x <;> simp only [Oper.uponIn] at h2 ⊢ <;>
        first
          | exact h2
          | exact ⟨h2.1, CallsIn.mono h2.2 (fun e w'' he => by cases e <;> first | exact he | exact he.elim | (obtain ⟨_, _, hf⟩ := he; exact hf.elim))⟩
          | exact ⟨h2.1, RowsIn.mono h2.2 (fun _ _ he => he)⟩
          | exact ⟨h2.1, RoundIn.mono h2.2 (fun e w'' he => by cases e <;> first | exact he | exact he.elim | (obtain ⟨_, _, hf⟩ := he; exact hf.elim))⟩
    | halt x w' => cases x <;> simp only [Oper.uponIn] at h2 ⊢ <;> first | exact h2 | exact h2.elim
  · rename_i hw
    rw [if_neg hw] at h1
    exact h1
/-- only one is ready: it is walked as ever -/
theorem WC_one (i : Nat) {o : Oper} {fuel : Nat} {listed l' : Array Bool} (hh : HSub H Hc) (hr : Region.ready .any ops listed = [i]) (hi : ops[i]? = some o) (hl : listed.setIfInBounds i true = l')
    (h : W P rd w0 (fun _ _ _ => False) n ds [.ops ops [o], .goal (fun a w => anyC rd P ops (Sat w0 Hc) (Q0 rd P Q k) fuel l' a w)] env H) : WC rd P w0 Q n ds k ops Hc (fuel + 1) listed env H := fun a w ha hds hsat => by
  subst hl
  refine ⟨hsat.hsub hh, fun h0 => (by rw [hr] at h0; cases h0), fun j hj => ?_⟩
  rw [hr] at hj
  obtain rfl : j = i := by simpa using hj
  exact wc_op hi (h a w ha hds hsat)
theorem WC_two (i j : Nat) {o o' : Oper} {fuel : Nat} {listed l' l'' : Array Bool} (hh : HSub H Hc) (hr : Region.ready .any ops listed = [i, j]) (hi : ops[i]? = some o) (hj : ops[j]? = some o') (hl : listed.setIfInBounds i true = l') (hl' : listed.setIfInBounds j true = l'')
    (h : W P rd w0 (fun _ _ _ => False) n ds [.ops ops [o], .goal (fun a w => anyC rd P ops (Sat w0 Hc) (Q0 rd P Q k) fuel l' a w)] env H)
    (h' : W P rd w0 (fun _ _ _ => False) n ds [.ops ops [o'], .goal (fun a w => anyC rd P ops (Sat w0 Hc) (Q0 rd P Q k) fuel l'' a w)] env H) : WC rd P w0 Q n ds k ops Hc (fuel + 1) listed env H := fun a w ha hds hsat => by
  subst hl hl'
  refine ⟨hsat.hsub hh, fun h0 => (by rw [hr] at h0; cases h0), fun x hx => ?_⟩
  rw [hr] at hx
  rcases (show x = i ∨ x = j by simpa using hx) with rfl | rfl
  · exact wc_op hi (h a w ha hds hsat)
  · exact wc_op hj (h' a w ha hds hsat)
theorem WC_goal {fuel : Nat} {l' : Array Bool} {k' : List It} {Q' : Exit → Act → World → Prop} (h : WC rd P w0 Q n ds k ops Hc fuel l' env H) : W P rd w0 Q' n ds (.goal (fun a w => anyC rd P ops (Sat w0 Hc) (Q0 rd P Q k) fuel l' a w) :: k') env H :=
  W_goal fun a w ha hd hs => h a w ha hd hs
end
section
variable {rd : Option Nat} {P : Program} {ops : Array Oper} {C : World → Prop} {Q : Exit → Act → World → Prop}
theorem takesG_op {i : Nat} {o : Oper} {v : Value} {a : Act} {w : World} {K : Act → World → Prop} (hi : ops[i]? = some o) (hnd : ∀ c, o.op ≠ .defer c) (hy : TakesG P ops C o v a) (hw : C w) (h : K (a.put o.dst v) w) : wpOpIn (fen rd) 0 P ops Q i K a w := by
  rcases hy with hy | ⟨hy, rfl⟩
  · exact takes_op hi hnd hy hw h
  · unfold Go.wpOpIn
    simp only [hi, hy, Bool.false_eq_true, if_false]
    exact ⟨fun _ _ => trivial, h⟩
theorem anyG_first {i : Nat} {oi : Oper} {v : Value} (hi : ops[i]? = some oi) (hsel : ∀ (j : Nat) (o : Oper) cs b, ops[j]? = some o → o.op ≠ .select cs b) (hnd : ∀ (j : Nat) (o : Oper), ops[j]? = some o → ∀ c, o.op ≠ .defer c) (hQ : ∀ c a w, Q (.panic c) (a.put oi.dst v) w → Q (.panic c) a w) :
    ∀ (f : Nat) (l : Array Bool) (a : Act) (w : World),
      (∀ j oj, ops[j]? = some oj → j ≠ i → l.getD j true = false → (∀ e ∈ oj.after, Region.binds .any e = true → e.on ≠ i) → oi.apart ops oj = true) →
      i ∈ Region.ready .any ops l → TakesG P ops C oi v a → anyC rd P ops C Q f (l.setIfInBounds i true) (a.put oi.dst v) w → anyC rd P ops C Q (f + 1) l a w := by
  intro f
  induction f with
  | zero =>
    intro l a w _ hr hy H
    refine ⟨H.1, fun h => (by rw [h] at hr; cases hr), fun j hj => ?_⟩
    by_cases hji : j = i
    · subst hji; exact takesG_op hi (hnd _ _ hi) hy H.1 H
    · have := ready_mono hj hji
      rw [H.2.1] at this
      cases this
  | succ f ih =>
    intro l a w hfree hr hy H
    refine ⟨H.1, fun h => (by rw [h] at hr; cases hr), fun j hj => ?_⟩
    by_cases hji : j = i
    · subst hji; exact takesG_op hi (hnd _ _ hi) hy H.1 H
    · have h1 := H.2.2 j (ready_mono hj hji)
      obtain ⟨hjun, oj, hoj, hall⟩ := mem_ready.1 hj
      have hnot : ∀ e ∈ oj.after, Region.binds .any e = true → e.on ≠ i := fun e he hb heq => by
        have h1 := hall e he hb
        have h0 := (mem_ready.1 hr).1
        rw [heq] at h1
        rcases Nat.lt_or_ge i l.size with h' | h'
        · simp [h'] at h0 h1; rw [h0] at h1; cases h1
        · simp [Array.getElem?_eq_none h'] at h1
      have h2 := op_putC hoj (hnd _ _ hoj) (hfree j oj hoj hji hjun hnot) (fun cs b => hsel i oi cs b hi) (fun cs b => hsel j oj cs b hoj) hQ h1
      have hfree' : ∀ k ok, ops[k]? = some ok → k ≠ i → (l.setIfInBounds j true).getD k true = false →
          (∀ e ∈ ok.after, Region.binds .any e = true → e.on ≠ i) → oi.apart ops ok = true := fun k ok hk hki hun hno => by
        refine hfree k ok hk hki ?_ hno
        by_cases hjk : j = k
        · subst hjk; exact hjun
        · rw [getD_set_ne true hjk] at hun; exact hun
      refine wpOpIn_mono (fun a' w' h3 => ih (l.setIfInBounds j true) a' w' hfree' (ready_mono hr (Ne.symm hji)) (hy.pass h3.1) ?_) h2
      rw [Array.setIfInBounds_comm _ _ hji]
      exact h3.2
end
section
variable {rd : Option Nat} {P : Program} {w0 : World} {Q : Exit → Act → World → Prop} {n : Nat} {ds : List Deferred} {k : List It} {env env' : Env} {H H' Hc : Heap} {ops : Array Oper}
/-- one with a guard that holds -/
theorem WC_gyes (i : Nat) {op : Op} {ty : TypeId} {v : Value} {d j dj : Nat} {b : Bool} {pos : String} {aft : Array Edge} {fuel : Nat} {listed l' : Array Bool} (hi : ops[i]? = some ⟨some d, op, ty, pos, aft, some (j, b)⟩) (hs : Region.noSelect ops = true) (hnd : noDefer ops = true) (hf : Region.free .any ops listed i = true) (hr : (Region.ready .any ops listed).contains i = true)
    (hcall : NoCall op = true) (hl : listed.setIfInBounds i true = l') (hj : (ops[j]?).bind (·.dst) = some dj) (ht : look env dj = some (.bool b)) (hx : Ex P n env (Sat w0 Hc) op ty v) (hd : Nat.blt d n = true)
    (h : WC rd P w0 Q n ds k ops Hc fuel l' ((d, v) :: env) H) : WC rd P w0 Q n ds k ops Hc (fuel + 1) listed env H := fun a w ha hds hsat => by
  subst hl
  have hy := ha.yielded hj ht
  exact anyG_first hi (Region.noSelect_spec hs) (noDefer_spec hnd) (fun _ _ _ hq => hq.elim) fuel listed a w (Region.free_spec hi hf) (by simpa using hr)
    (.inl ⟨by simp [Region.wanted, hy], fun w hw => hx a w _ _ _ _ ha hw, fun w _ => about_nocall hcall w _⟩) (h _ w (ha.put (d := some d) hd) hds hsat)
/-- one with a guard that doesn't hold -/
theorem WC_gno (i : Nat) {op : Op} {ty : TypeId} {d : Option Nat} {j dj : Nat} {b b' : Bool} {pos : String} {aft : Array Edge} {fuel : Nat} {listed l' : Array Bool} (hi : ops[i]? = some ⟨d, op, ty, pos, aft, some (j, b)⟩) (hs : Region.noSelect ops = true) (hnd : noDefer ops = true) (hf : Region.free .any ops listed i = true) (hr : (Region.ready .any ops listed).contains i = true)
    (hl : listed.setIfInBounds i true = l') (hj : (ops[j]?).bind (·.dst) = some dj) (ht : look env dj = some (.bool b')) (hb : (b' == b) = false) (hd : dok n d = true)
    (h : WC rd P w0 Q n ds k ops Hc fuel l' (put d undef env) H) : WC rd P w0 Q n ds k ops Hc (fuel + 1) listed env H := fun a w ha hds hsat => by
  subst hl
  have hy := ha.yielded hj ht
  exact anyG_first hi (Region.noSelect_spec hs) (noDefer_spec hnd) (fun _ _ _ hq => hq.elim) fuel listed a w (Region.free_spec hi hf) (by simpa using hr)
    (.inr ⟨by simp only [Region.wanted, hy]; simpa using hb, rfl⟩) (h _ w (ha.put hd) (by cases d <;> exact hds) hsat)
/-- one that was passed over has no truth for others' guards -/
theorem WC_gnou (i : Nat) {op : Op} {ty : TypeId} {d : Option Nat} {j dj : Nat} {b : Bool} {pos : String} {aft : Array Edge} {fuel : Nat} {listed l' : Array Bool} (hi : ops[i]? = some ⟨d, op, ty, pos, aft, some (j, b)⟩) (hs : Region.noSelect ops = true) (hnd : noDefer ops = true) (hf : Region.free .any ops listed i = true) (hr : (Region.ready .any ops listed).contains i = true)
    (hl : listed.setIfInBounds i true = l') (hj : (ops[j]?).bind (·.dst) = some dj) (ht : look env dj = some undef) (hd : dok n d = true)
    (h : WC rd P w0 Q n ds k ops Hc fuel l' (put d undef env) H) : WC rd P w0 Q n ds k ops Hc (fuel + 1) listed env H := fun a w ha hds hsat => by
  subst hl
  have hy := yielded_undef ha hj ht
  exact anyG_first hi (Region.noSelect_spec hs) (noDefer_spec hnd) (fun _ _ _ hq => hq.elim) fuel listed a w (Region.free_spec hi hf) (by simpa using hr)
    (.inr ⟨by simp [Region.wanted, hy], rfl⟩) (h _ w (ha.put hd) (by cases d <;> exact hds) hsat)
end
/-! ## Regions that draw their order, of which one operation comes behind all others that read: it may write what they read -/
section
variable {rd : Option Nat} {P : Program} {ops : Array Oper} {C C2 : World → Prop} {Q : Exit → Act → World → Prop} {s : Nat}
/-- every order from here on; 'C' holds until the operation 's' is done, 'C2' from then on -/
def anyS (rd : Option Nat) (P : Program) (ops : Array Oper) (C C2 : World → Prop) (Q : Exit → Act → World → Prop) (s : Nat) : Nat → Array Bool → Act → World → Prop
  | 0, l, a, w => C w ∧ Region.ready .any ops l = [] ∧ Q .normal a w
  | f + 1, l, a, w => C w ∧ (Region.ready .any ops l = [] → Q .normal a w) ∧ (∀ i ∈ Region.ready .any ops l, i ≠ s → wpOpIn (fen rd) 0 P ops Q i (anyS rd P ops C C2 Q s f (l.setIfInBounds i true)) a w) ∧
      (s ∈ Region.ready .any ops l → wpOpIn (fen rd) 0 P ops Q s (anyC rd P ops C2 Q f (l.setIfInBounds s true)) a w)
theorem anyS.here {f : Nat} {l : Array Bool} {a : Act} {w : World} (h : anyS rd P ops C C2 Q s f l a w) : C w := by
  cases f <;> exact h.1
theorem anyS.any : ∀ {f : Nat} {l : Array Bool} {a : Act} {w : World}, anyS rd P ops C C2 Q s f l a w → wpAnyIn (fen rd) 0 P .any ops Q f l a w
  | 0, _, _, _, h => h.2
  | f + 1, l, _, _, h => ⟨h.2.1, fun i hi => by
    by_cases e : i = s
    · subst e; exact wpOpIn_mono (fun _ _ h => h.any) (h.2.2.2 hi)
    · exact wpOpIn_mono (fun _ _ h => h.any) (h.2.2.1 i hi e)⟩
theorem anyS_first {i : Nat} {oi : Oper} {v : Value} (hi : ops[i]? = some oi) (his : i ≠ s) (hsel : ∀ (j : Nat) (o : Oper) cs b, ops[j]? = some o → o.op ≠ .select cs b) (hnd : ∀ (j : Nat) (o : Oper), ops[j]? = some o → ∀ c, o.op ≠ .defer c) (hQ : ∀ c a w, Q (.panic c) (a.put oi.dst v) w → Q (.panic c) a w) :
    ∀ (f : Nat) (l : Array Bool) (a : Act) (w : World),
      (∀ j oj, ops[j]? = some oj → j ≠ i → l.getD j true = false → (∀ e ∈ oj.after, Region.binds .any e = true → e.on ≠ i) → oi.apart ops oj = true) →
      i ∈ Region.ready .any ops l → TakesC P ops C oi v a → ((∃ os e, ops[s]? = some os ∧ e ∈ os.after ∧ Region.binds .any e = true ∧ e.on = i) ∨ TakesC P ops C2 oi v a) → anyS rd P ops C C2 Q s f (l.setIfInBounds i true) (a.put oi.dst v) w → anyS rd P ops C C2 Q s (f + 1) l a w := by
  intro f
  induction f with
  | zero =>
    intro l a w _ hr hy _ H
    refine ⟨H.1, fun h => (by rw [h] at hr; cases hr), fun j hj hjs => ?_, fun hj => ?_⟩
    · by_cases hji : j = i
      · subst hji; exact takes_op hi (hnd _ _ hi) hy H.1 H
      · have := ready_mono hj hji
        rw [H.2.1] at this
        cases this
    · have := ready_mono hj (Ne.symm his)
      rw [H.2.1] at this
      cases this
  | succ f ih =>
    intro l a w hfree hr hy hc H
    have notOf : ∀ j oj, j ∈ Region.ready .any ops l → ops[j]? = some oj → ∀ e ∈ oj.after, Region.binds .any e = true → e.on ≠ i := fun j oj hj hoj e he hb heq => by
      obtain ⟨_, oj', hoj', hall⟩ := mem_ready.1 hj
      obtain rfl : oj = oj' := Option.some.inj (hoj.symm.trans hoj')
      have h1 := hall e he hb
      have h0 := (mem_ready.1 hr).1
      rw [heq] at h1
      rcases Nat.lt_or_ge i l.size with h' | h'
      · simp [h'] at h0 h1; rw [h0] at h1; cases h1
      · simp [Array.getElem?_eq_none h'] at h1
    have free' : ∀ j, ∀ k ok, ops[k]? = some ok → k ≠ i → (l.setIfInBounds j true).getD k true = false →
          (∀ e ∈ ok.after, Region.binds .any e = true → e.on ≠ i) → oi.apart ops ok = true := fun j k ok hk hki hun hno => by
      refine hfree k ok hk hki ?_ hno
      by_cases hjk : j = k
      · subst hjk
        rcases Nat.lt_or_ge j l.size with h' | h'
        · simp [h'] at hun
        · simp [Array.getElem?_eq_none h'] at hun
      · rw [getD_set_ne true hjk] at hun; exact hun
    refine ⟨H.1, fun h => (by rw [h] at hr; cases hr), fun j hj hjs => ?_, fun hj => ?_⟩
    · by_cases hji : j = i
      · subst hji; exact takes_op hi (hnd _ _ hi) hy H.1 H
      · have h1 := H.2.2.1 j (ready_mono hj hji) hjs
        obtain ⟨hjun, oj, hoj, hall⟩ := mem_ready.1 hj
        have h2 := op_putC hoj (hnd _ _ hoj) (hfree j oj hoj hji hjun (notOf j oj hj hoj)) (fun cs b => hsel i oi cs b hi) (fun cs b => hsel j oj cs b hoj) hQ h1
        refine wpOpIn_mono (fun a' w' h3 => ih (l.setIfInBounds j true) a' w' (free' j) (ready_mono hr (Ne.symm hji)) (hy.pass h3.1) (hc.imp id (·.pass h3.1)) ?_) h2
        rw [Array.setIfInBounds_comm _ _ hji]
        exact h3.2
    · have hji : s ≠ i := Ne.symm his
      have h1 := H.2.2.2 (ready_mono hj hji)
      obtain ⟨hjun, oj, hoj, hall⟩ := mem_ready.1 hj
      rcases hc with ⟨os, e, hos, he, hb, heq⟩ | hc
      · exact absurd heq (notOf s os hj hos e he hb)
      · have h2 := op_putC hoj (hnd _ _ hoj) (hfree s oj hoj hji hjun (notOf s oj hj hoj)) (fun cs b => hsel i oi cs b hi) (fun cs b => hsel s oj cs b hoj) hQ h1
        refine wpOpIn_mono (fun a' w' h3 => anyC_first hi hsel hnd hQ f (l.setIfInBounds s true) a' w' (free' s) (ready_mono hr (Ne.symm hji)) (hc.pass h3.1) ?_) h2
        rw [Array.setIfInBounds_comm _ _ hji]
        exact h3.2
end
section
variable {rd : Option Nat} {P : Program} {w0 : World} {Q : Exit → Act → World → Prop} {n : Nat} {ds : List Deferred} {k : List It} {env env' : Env} {H H' Hc : Heap} {ops : Array Oper} {s : Nat}
/-- any order; what is read lies in 'Hc', until 's' is done -/
def WS (rd : Option Nat) (P : Program) (w0 : World) (Q : Exit → Act → World → Prop) (n : Nat) (ds : List Deferred) (k : List It) (ops : Array Oper) (Hc : Heap) (s fuel : Nat) (listed : Array Bool) (env : Env) (H : Heap) : Prop :=
  ∀ a w, Agree n env a → a.defers = ds → Sat w0 H w → anyS rd P ops (Sat w0 Hc) (Sat w0 []) (Q0 rd P Q k) s fuel listed a w
theorem W_anyS {id : Nat} {l : List Oper} (Hc : Heap) (s : Nat) (hm : P.follows .mixedOrders = true) (h : WS rd P w0 Q n ds k l.toArray Hc s l.length (Array.replicate l.length false) env H) : W P rd w0 Q n ds (.code (.region id l.toArray true) :: k) env H := by
  intro a w ha hd hs
  show (Code.region id l.toArray true).wpIn (fen rd) 0 P (Cont P rd Q k) a w
  exact wpIn_mono (wpIn_region_any hm (by simpa using (h a _ ha hd hs.drew).any)) fun _ _ _ => Q0_of
/-- one that reads, ahead of 's' by an edge -/
theorem WS_take (i : Nat) {op : Op} {ty : TypeId} {v : Value} {d : Nat} {pos : String} {aft : Array Edge} {fuel : Nat} {listed l' : Array Bool} (hi : ops[i]? = some ⟨some d, op, ty, pos, aft, none⟩) (his : Nat.beq i s = false) (hs : Region.noSelect ops = true) (hnd : noDefer ops = true) (hf : Region.free .any ops listed i = true) (hr : (Region.ready .any ops listed).contains i = true)
    (hdep : bindsOn ops s i = true) (hcall : NoCall op = true) (hl : listed.setIfInBounds i true = l') (hx : Ex P n env (Sat w0 Hc) op ty v) (hd : Nat.blt d n = true)
    (h : WS rd P w0 Q n ds k ops Hc s fuel l' ((d, v) :: env) H) : WS rd P w0 Q n ds k ops Hc s (fuel + 1) listed env H := fun a w ha hds hsat => by
  subst hl
  exact anyS_first hi (fun e => by rw [e] at his; simp at his) (Region.noSelect_spec hs) (noDefer_spec hnd) (fun _ _ _ hq => hq.elim) fuel listed a w (Region.free_spec hi hf) (by simpa using hr)
    ⟨by simp [Region.wanted], fun w hw => hx a w _ _ _ _ ha hw, fun w _ => about_nocall hcall w _⟩ (.inl (bindsOn_spec hdep)) (h _ w (ha.put (d := some d) hd) hds hsat)
/-- one that reads no memory -/
theorem WS_takeP (i : Nat) {op : Op} {ty : TypeId} {v : Value} {d : Nat} {pos : String} {aft : Array Edge} {fuel : Nat} {listed l' : Array Bool} (hi : ops[i]? = some ⟨some d, op, ty, pos, aft, none⟩) (his : Nat.beq i s = false) (hs : Region.noSelect ops = true) (hnd : noDefer ops = true) (hf : Region.free .any ops listed i = true) (hr : (Region.ready .any ops listed).contains i = true)
    (hcall : NoCall op = true) (hl : listed.setIfInBounds i true = l') (hx : Ex P n env (fun _ => True) op ty v) (hd : Nat.blt d n = true)
    (h : WS rd P w0 Q n ds k ops Hc s fuel l' ((d, v) :: env) H) : WS rd P w0 Q n ds k ops Hc s (fuel + 1) listed env H := fun a w ha hds hsat => by
  subst hl
  exact anyS_first hi (fun e => by rw [e] at his; simp at his) (Region.noSelect_spec hs) (noDefer_spec hnd) (fun _ _ _ hq => hq.elim) fuel listed a w (Region.free_spec hi hf) (by simpa using hr)
    ⟨by simp [Region.wanted], fun w hw => hx a w _ _ _ _ ha trivial, fun w _ => about_nocall hcall w _⟩ (.inr ⟨by simp [Region.wanted], fun w hw => hx a w _ _ _ _ ha trivial, fun w _ => about_nocall hcall w _⟩) (h _ w (ha.put (d := some d) hd) hds hsat)
/-- only one is ready -/
theorem WS_one (i : Nat) {o : Oper} {fuel : Nat} {listed l' : Array Bool} (hh : HSub H Hc) (his : Nat.beq i s = false) (hr : Region.ready .any ops listed = [i]) (hi : ops[i]? = some o) (hl : listed.setIfInBounds i true = l')
    (h : W P rd w0 (fun _ _ _ => False) n ds [.ops ops [o], .goal (fun a w => anyS rd P ops (Sat w0 Hc) (Sat w0 []) (Q0 rd P Q k) s fuel l' a w)] env H) : WS rd P w0 Q n ds k ops Hc s (fuel + 1) listed env H := fun a w ha hds hsat => by
  subst hl
  have hne : i ≠ s := fun e => by rw [e] at his; simp at his
  refine ⟨hsat.hsub hh, fun h0 => (by rw [hr] at h0; cases h0), fun j hj _ => ?_, fun hj => ?_⟩
  · rw [hr] at hj
    obtain rfl : j = i := by simpa using hj
    exact wc_op hi (h a w ha hds hsat)
  · rw [hr] at hj
    exact absurd (by simpa using hj : s = i).symm hne
/-- only 's' is ready -/
theorem WS_last {o : Oper} {fuel : Nat} {listed l' : Array Bool} (hh : HSub H Hc) (hr : Region.ready .any ops listed = [s]) (hi : ops[s]? = some o) (hl : listed.setIfInBounds s true = l')
    (h : W P rd w0 (fun _ _ _ => False) n ds [.ops ops [o], .goal (fun a w => anyC rd P ops (Sat w0 []) (Q0 rd P Q k) fuel l' a w)] env H) : WS rd P w0 Q n ds k ops Hc s (fuel + 1) listed env H := fun a w ha hds hsat => by
  subst hl
  refine ⟨hsat.hsub hh, fun h0 => (by rw [hr] at h0; cases h0), fun j hj hjs => ?_, fun hj => wc_op hi (h a w ha hds hsat)⟩
  rw [hr] at hj
  exact absurd (by simpa using hj) hjs
theorem WS_goal {fuel : Nat} {l' : Array Bool} {k' : List It} {Q' : Exit → Act → World → Prop} (h : WS rd P w0 Q n ds k ops Hc s fuel l' env H) : W P rd w0 Q' n ds (.goal (fun a w => anyS rd P ops (Sat w0 Hc) (Sat w0 []) (Q0 rd P Q k) s fuel l' a w) :: k') env H :=
  W_goal fun a w ha hd hs => h a w ha hd hs
end
end Go.Sl.Rd
namespace Go.Sl
/-! ## Parts of heaps, found by the search for instances: what fails there costs no time -/
class TakeI (p : Nat × Blk) (H : Heap) (H1 : outParam Heap) : Prop where
  out : Take p H H1
instance (priority := 1000) TakeI.here {p : Nat × Blk} {H : Heap} : TakeI p (p :: H) H := ⟨.here H⟩
instance (priority := 500) TakeI.next {p q : Nat × Blk} {H H1 : Heap} [h : TakeI p H H1] : TakeI p (q :: H) (q :: H1) := ⟨.next h.out⟩
instance (priority := 500) TakeI.app {p : Nat × Blk} {S H H1 : Heap} [h : TakeI p H H1] : TakeI p (S ++ H) (S ++ H1) := ⟨.app h.out⟩
class TakeSI (S : Heap) (H : Heap) (H1 : outParam Heap) : Prop where
  out : TakeS S H H1
instance (priority := 1000) TakeSI.here {S H : Heap} : TakeSI S (S ++ H) H := ⟨.here H⟩
instance (priority := 500) TakeSI.next {q : Nat × Blk} {S H H1 : Heap} [h : TakeSI S H H1] : TakeSI S (q :: H) (q :: H1) := ⟨.next h.out⟩
instance (priority := 500) TakeSI.app {S T H H1 : Heap} [h : TakeSI S H H1] : TakeSI S (T ++ H) (T ++ H1) := ⟨.app h.out⟩
class HSubI (H H' : Heap) : Prop where
  out : HSub H H'
instance (priority := 1000) HSubI.refl {H : Heap} : HSubI H H := ⟨.refl H⟩
instance (priority := 900) HSubI.nil {H : Heap} : HSubI H [] := ⟨.nil H⟩
instance (priority := 800) HSubI.cons {p : Nat × Blk} {H H1 H' : Heap} [t : TakeI p H H1] [h : HSubI H1 H'] : HSubI H (p :: H') := ⟨.cons t.out h.out⟩
instance (priority := 800) HSubI.app {S H H1 H' : Heap} [t : TakeSI S H H1] [h : HSubI H1 H'] : HSubI H (S ++ H') := ⟨.app t.out h.out⟩
instance (priority := 100) HSubI.drop {p : Nat × Blk} {H H' : Heap} [h : HSubI H H'] : HSubI (p :: H) H' := ⟨.drop h.out⟩
instance (priority := 100) HSubI.dropS {S H H' : Heap} [h : HSubI H H'] : HSubI (S ++ H) H' := ⟨.dropS h.out⟩
theorem hsubI {H H' : Heap} [h : HSubI H H'] : HSub H H' := h.out
theorem takeI {p : Nat × Blk} {H H1 : Heap} [h : TakeI p H H1] : Take p H H1 := h.out
/-- a block is there -/
class MemI (p : Nat × Blk) (H : Heap) : Prop where
  out : p ∈ H
instance (priority := 1000) MemI.here {p : Nat × Blk} {H : Heap} : MemI p (p :: H) := ⟨List.mem_cons_self⟩
instance (priority := 500) MemI.next {p q : Nat × Blk} {H : Heap} [h : MemI p H] : MemI p (q :: H) := ⟨List.mem_cons_of_mem _ h.out⟩
instance (priority := 500) MemI.app {p : Nat × Blk} {S H : Heap} [h : MemI p H] : MemI p (S ++ H) := ⟨List.mem_append_right _ h.out⟩
theorem memI {p : Nat × Blk} {H : Heap} [h : MemI p H] : p ∈ H := h.out
end Go.Sl
