/-
  Own work: the small logic, more of its rules; of any program.
-/
import Derived.Test.YtknbohnoiigioaaSlFlatEq
set_option linter.all false
set_option linter.unusedSimpArgs false
set_option linter.unusedVariables false
namespace Go.Sl
open Go.RowKit
section
variable {P : Program} {ops : Array Oper} {C : World → Prop} {Q : Exit → Act → World → Prop}
/-- what an operation yields in every world of the class, or it is passed over -/
def TakesG (P : Program) (ops : Array Oper) (C : World → Prop) (o : Oper) (v : Value) (a : Act) : Prop :=
  TakesC P ops C o v a ∨ (Region.wanted o (yielded ops a.tmps) = false ∧ v = undef)
theorem TakesG.pass {o o' : Oper} {v : Value} {a a' : Act} (h : TakesG P ops C o v a) (hs : PassC P ops o o' a a') : TakesG P ops C o v a' :=
  h.imp (·.pass hs) fun h => ⟨hs.wanted.trans h.1, h.2⟩
theorem TakesG.op {i : Nat} {o : Oper} {v : Value} {a : Act} {w : World} {K : Act → World → Prop} (hi : ops[i]? = some o) (hy : TakesG P ops C o v a) (hw : C w) (h : K (a.put o.dst v) w) : wpOpIn (fen none) 0 P ops Q i K a w := by
  rcases hy with hy | ⟨hy, rfl⟩
  · exact hy.op hi hw h
  · unfold Go.wpOpIn
    simp only [hi, hy, Bool.false_eq_true, if_false]
    exact ⟨fun _ _ => trivial, h⟩
theorem anyG_first {i : Nat} {oi : Oper} {v : Value} (hi : ops[i]? = some oi) (hsel : ∀ (j : Nat) (o : Oper) cs b, ops[j]? = some o → o.op ≠ .select cs b) (hQ : ∀ c a w, Q (.panic c) (a.put oi.dst v) w → Q (.panic c) a w) :
    ∀ (f : Nat) (l : Array Bool) (a : Act) (w : World),
      (∀ j oj, ops[j]? = some oj → j ≠ i → l.getD j true = false → (∀ e ∈ oj.after, Region.binds .any e = true → e.on ≠ i) → oi.apart ops oj = true) →
      i ∈ Region.ready .any ops l → TakesG P ops C oi v a → anyC P ops C Q f (l.setIfInBounds i true) (a.put oi.dst v) w → anyC P ops C Q (f + 1) l a w := by
  intro f
  induction f with
  | zero =>
    intro l a w _ hr hy H
    refine ⟨H.1, fun h => (by rw [h] at hr; cases hr), fun j hj => ?_⟩
    by_cases hji : j = i
    · subst hji; exact hy.op hi H.1 H
    · have := ready_mono hj hji
      rw [H.2.1] at this
      cases this
  | succ f ih =>
    intro l a w hfree hr hy H
    refine ⟨H.1, fun h => (by rw [h] at hr; cases hr), fun j hj => ?_⟩
    by_cases hji : j = i
    · subst hji; exact hy.op hi H.1 H
    · have h1 := H.2.2 j (ready_mono hj hji)
      obtain ⟨hjun, oj, hoj, hall⟩ := mem_ready.1 hj
      have hnot : ∀ e ∈ oj.after, Region.binds .any e = true → e.on ≠ i := fun e he hb heq => by
        have h1 := hall e he hb
        have h0 := (mem_ready.1 hr).1
        rw [heq] at h1
        rcases Nat.lt_or_ge i l.size with h' | h'
        · simp [h'] at h0 h1; rw [h0] at h1; cases h1
        · simp [Array.getElem?_eq_none h'] at h1
      have h2 := op_putC hoj (hfree j oj hoj hji hjun hnot) (fun cs b => hsel i oi cs b hi) (fun cs b => hsel j oj cs b hoj) hQ h1
      have hfree' : ∀ k ok, ops[k]? = some ok → k ≠ i → (l.setIfInBounds j true).getD k true = false →
          (∀ e ∈ ok.after, Region.binds .any e = true → e.on ≠ i) → oi.apart ops ok = true := fun k ok hk hki hun hno => by
        refine hfree k ok hk hki ?_ hno
        by_cases hjk : j = k
        · subst hjk; exact hjun
        · rw [getD_set_ne true hjk] at hun; exact hun
      refine wpOpIn_mono (fun a' w' h3 => ih (l.setIfInBounds j true) a' w' hfree' (ready_mono hr (Ne.symm hji)) (hy.pass h3.1) ?_) h2
      rw [Array.setIfInBounds_comm _ _ hji]
      exact h3.2
end
section
variable {P : Program} {w0 : World} {Q : Exit → Act → World → Prop} {n : Nat} {ds : List Deferred} {k : List It} {env env' : Env} {H H' Hc : Heap} {ops : Array Oper}
/-- one with a guard that holds -/
theorem WC_gyes (i : Nat) {op : Op} {ty : TypeId} {v : Value} {d j dj : Nat} {b : Bool} {pos : String} {aft : Array Edge} {fuel : Nat} {listed l' : Array Bool} (hi : ops[i]? = some ⟨some d, op, ty, pos, aft, some (j, b)⟩) (hs : Region.noSelect ops = true) (hf : Region.free .any ops listed i = true) (hr : (Region.ready .any ops listed).contains i = true)
    (hcall : NoCall op = true) (hl : listed.setIfInBounds i true = l') (hj : (ops[j]?).bind (·.dst) = some dj) (ht : look env dj = some (.bool b)) (hx : Ex P n env (Sat w0 Hc) op ty v) (hd : Nat.blt d n = true)
    (h : WC P w0 Q n ds k ops Hc fuel l' ((d, v) :: env) H) : WC P w0 Q n ds k ops Hc (fuel + 1) listed env H := fun a w ha hds hsat => by
  subst hl
  have hy := ha.yielded hj ht
  exact anyG_first hi (Region.noSelect_spec hs) (fun _ _ _ hq => hq.elim) fuel listed a w (Region.free_spec hi hf) (by simpa using hr)
    (.inl ⟨by simp [Region.wanted, hy], fun w hw => hx a w _ _ _ _ ha hw, fun w _ => about_nocall hcall w _⟩) (h _ w (ha.put (d := some d) hd) hds hsat)
/-- one with a guard that doesn't hold -/
theorem WC_gno (i : Nat) {op : Op} {ty : TypeId} {d : Option Nat} {j dj : Nat} {b b' : Bool} {pos : String} {aft : Array Edge} {fuel : Nat} {listed l' : Array Bool} (hi : ops[i]? = some ⟨d, op, ty, pos, aft, some (j, b)⟩) (hs : Region.noSelect ops = true) (hf : Region.free .any ops listed i = true) (hr : (Region.ready .any ops listed).contains i = true)
    (hl : listed.setIfInBounds i true = l') (hj : (ops[j]?).bind (·.dst) = some dj) (ht : look env dj = some (.bool b')) (hb : (b' == b) = false) (hd : dok n d = true)
    (h : WC P w0 Q n ds k ops Hc fuel l' (put d undef env) H) : WC P w0 Q n ds k ops Hc (fuel + 1) listed env H := fun a w ha hds hsat => by
  subst hl
  have hy := ha.yielded hj ht
  exact anyG_first hi (Region.noSelect_spec hs) (fun _ _ _ hq => hq.elim) fuel listed a w (Region.free_spec hi hf) (by simpa using hr)
    (.inr ⟨by simp only [Region.wanted, hy]; simpa using hb, rfl⟩) (h _ w (ha.put hd) (by cases d <;> exact hds) hsat)
/-- one that was passed over has no truth for others' guards -/
theorem WC_gnou (i : Nat) {op : Op} {ty : TypeId} {d : Option Nat} {j dj : Nat} {b : Bool} {pos : String} {aft : Array Edge} {fuel : Nat} {listed l' : Array Bool} (hi : ops[i]? = some ⟨d, op, ty, pos, aft, some (j, b)⟩) (hs : Region.noSelect ops = true) (hf : Region.free .any ops listed i = true) (hr : (Region.ready .any ops listed).contains i = true)
    (hl : listed.setIfInBounds i true = l') (hj : (ops[j]?).bind (·.dst) = some dj) (ht : look env dj = some undef) (hd : dok n d = true)
    (h : WC P w0 Q n ds k ops Hc fuel l' (put d undef env) H) : WC P w0 Q n ds k ops Hc (fuel + 1) listed env H := fun a w ha hds hsat => by
  subst hl
  have hy := yielded_undef ha hj ht
  exact anyG_first hi (Region.noSelect_spec hs) (fun _ _ _ hq => hq.elim) fuel listed a w (Region.free_spec hi hf) (by simpa using hr)
    (.inr ⟨by simp [Region.wanted, hy], rfl⟩) (h _ w (ha.put hd) (by cases d <;> exact hds) hsat)
end
section
variable {P : Program} {w0 : World} {Q : Exit → Act → World → Prop} {n : Nat} {ds : List Deferred} {k : List It} {env : Env} {H : Heap} {ops : Array Oper}
/-- nothing is yielded by what was passed over: a quiet region -/
theorem WQ_gnou {d : Option Nat} {op : Op} {t : TypeId} {pos : String} {aft : Array Edge} {j : Nat} {b : Bool} {dj : Nat} {rest : List Oper} (hj : (ops[j]?).bind (·.dst) = some dj) (ht : look env dj = some undef) (hd : dok n d = true)
    (h : WQ P w0 Q n ds k ops rest (put d undef env) H) : WQ P w0 Q n ds k ops (⟨d, op, t, pos, aft, some (j, b)⟩ :: rest) env H := fun a ha hds => by
  refine ⟨fun _ _ _ _ => trivial, ?_⟩
  have hy := yielded_undef ha hj ht
  rw [if_neg (by simp [Region.wanted, hy])]
  exact h _ (ha.put hd) (by cases d <;> exact hds)
end
end Go.Sl
