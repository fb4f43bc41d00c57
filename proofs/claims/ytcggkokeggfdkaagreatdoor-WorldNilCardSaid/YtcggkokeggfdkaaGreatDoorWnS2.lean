/-
  Own work: a small logic for walking through a function's code: facts on slots, owned blocks of memory, and its rules; of any program.
-/
import Derived.Test.YtcggkokeggfdkaaGreatDoorWnS1
import Derived.Laws.Cover3
import Derived.Laws.IdiomStrings
import Derived.ChangeKeysEq
import Derived.Deep.Slices
import Derived.OpenShut
import Derived.Maps.RangeRun
import Derived.WideLaws
set_option linter.all false
set_option linter.unusedSimpArgs false
set_option linter.unusedVariables false
namespace Go.Sl
open Go.RowKit
section
variable {P : Program} {w0 : World} {H H' : Heap}
theorem Holds.take {ad : Option Addr} {l : List Value} (h : Holds w0 H ad l) (k : Nat) : Holds w0 H ad (l.take k) := fun j x hx => h j x (by
  rw [List.getElem?_take] at hx
  split at hx
  · exact hx
  · cases hx)
theorem Holds.old {ad : Option Addr} {l : List Value} (h : ∀ (j : Nat) x, l[j]? = some x → ∃ b o, ad = some ⟨b, o, none⟩ ∧ w0.cell? ⟨b, o + j, none⟩ = some x) : Holds w0 H ad l := fun j x hx => by
  obtain ⟨b, o, e, hc⟩ := h j x hx
  exact ⟨b, o, e, Cell.old hc⟩
theorem Holds.at {ad : Option Addr} {l : List Value} {i : Nat} {v : Value} (h : Holds w0 H ad l) (hv : l[i]? = some v) : ∃ b o, ad = some ⟨b, o, none⟩ ∧ Cell w0 H b (o + i) v := h i v hv
theorem flat_at {α : Type} {f : α → List Value} {s : Nat} (hf : ∀ x, (f x).length = s) : ∀ {l : List α} {i : Nat} {x : α}, l[i]? = some x → ∀ j v, (f x)[j]? = some v → (l.flatMap f)[i * s + j]? = some v
  | [], _, _, h, _, _, _ => by simp at h
  | y :: l, 0, x, h, j, v, hv => by
    have : y = x := by simpa using h
    subst this
    rw [List.flatMap_cons, List.getElem?_append_left (by rw [Nat.zero_mul, Nat.zero_add]; exact (List.getElem?_eq_some_iff.1 hv).1)]
    simpa using hv
  | y :: l, i + 1, x, h, j, v, hv => by
    have ih := flat_at hf (l := l) (i := i) (by simpa using h) j v hv
    rw [List.flatMap_cons, List.getElem?_append_right (by rw [hf, Nat.add_mul]; omega), hf, show (i + 1) * s + j - s = i * s + j by rw [Nat.add_mul]; omega]
    exact ih
theorem Holds.row {α : Type} {f : α → List Value} {s : Nat} (hf : ∀ x, (f x).length = s) (hs : 0 < s) {ad : Option Addr} {l : List α} {i : Nat} {x : α} (h : Holds w0 H ad (l.flatMap f)) (hx : l[i]? = some x) : ∃ b o, ad = some ⟨b, o, none⟩ ∧ Cells w0 H b (o + i * s) (f x) := by
  have h0 : 0 < (f x).length := by rw [hf]; exact hs
  obtain ⟨b, o, e, _⟩ := h _ _ (flat_at hf hx 0 _ (List.getElem?_eq_getElem h0))
  subst e
  refine ⟨b, o, rfl, fun j v hv => ?_⟩
  obtain ⟨b', o', e', hc⟩ := h _ _ (flat_at hf hx j v hv)
  cases e'
  rw [Nat.add_assoc]; exact hc
theorem Holds.of_own {e : TypeId} {s : Nat} {v : Value} {n : Nat} {xs : List Value} {HB : Heap} (h : OwnS e s v n xs HB) (hm : ∀ p ∈ HB, p ∈ H) : ∃ ad cap, v = .slice ad n cap ∧ n ≤ cap ∧ cap ≤ maxLen ∧ Holds w0 H ad xs := by
  cases h with
  | nil => exact ⟨none, 0, rfl, Nat.le_refl _, Nat.zero_le _, Holds.nil⟩
  | own h1 h2 h3 => exact ⟨_, _, rfl, h2, h3, Holds.own (hm _ List.mem_cons_self)⟩
def PureAt (P : Program) (w0 : World) (H : Heap) (f : FuncId) (args : List Value) (v : Value) : Prop := LCalls P w0 f args.toArray H (fun v' H' => v' = v ∧ H' = H)
theorem Pure.at {T : World → Prop} {f : FuncId} {args : List Value} {v : Value} (h : Pure P T f args v) (hT : T w0) : PureAt P w0 H f args v := h w0 H hT
end
section
variable {P : Program} {rd : Option Nat} {w0 : World} {Q : Exit → Act → World → Prop} {n : Nat} {ds : List Deferred} {k : List It} {env env' : Env} {H H' : Heap} {all : Array Oper} {rest : List Oper}
variable {x y c : Operand} {t u ty : TypeId} {pos : String} {aft : Array Edge} {v : Value}
theorem yielded_undef {a : Act} (ha : Agree n env a) {j dj : Nat} (hj : (all[j]?).bind (·.dst) = some dj) (ht : look env dj = some undef) : yielded all a.tmps j = none := by
  have hv := ha.val _ _ ht
  unfold yielded
  rw [hj]
  simp only [Option.bind_some]
  rcases Nat.lt_or_ge dj a.tmps.size with h | h
  · rw [Array.getD_eq_getD_getElem?, Array.getElem?_eq_getElem h] at hv
    rw [Array.getElem?_eq_getElem h]
    simp only [Option.getD_some] at hv
    rw [hv]; rfl
  · rw [Array.getElem?_eq_none h]
theorem W_gnou {d : Option Nat} {op : Op} {aft : Array Edge} {j : Nat} {b : Bool} {dj : Nat} (hj : (all[j]?).bind (·.dst) = some dj) (ht : look env dj = some undef) (hd : dok n d = true)
    (h : W P rd w0 Q n ds (.ops all rest :: k) (put d undef env) H) : W P rd w0 Q n ds (.ops all (⟨d, op, t, pos, aft, some (j, b)⟩ :: rest) :: k) env H := by
  intro a w ha hds hs
  have hy := yielded_undef ha hj ht
  show wpListIn (fen rd) 0 P all (Cont P rd Q k) (_ :: rest) a w
  unfold wpListIn
  rw [if_neg (by simp [Region.wanted, hy])]
  exact ⟨fun _ _ => trivial, h (a.put d undef) w (ha.put hd) (by cases d <;> exact hds) hs⟩
theorem W_callq {d : Option Nat} {f : FuncId} {l : List Operand} {vs : List Value} {tys : Array TypeId} (hc : OpVs env l vs) (hf : ∀ (args : Array Value) (w : World), (callFunc f args).run P w = .ok (.enter f args) w) (hd : dok n d = true)
    (hL : PureAt P w0 H f vs v) (h : W P rd w0 Q n ds (.ops all rest :: k) (put d v env) H) :
    W P rd w0 Q n ds (.ops all (⟨d, .call ⟨.value (.func f), l.toArray, tys⟩, t, pos, aft, none⟩ :: rest) :: k) env H :=
  W_call hc hf hd hL (by rintro v' H' ⟨rfl, rfl⟩; exact h)
theorem W_callqv {d : Option Nat} {f : FuncId} {l : List Operand} {vs args : List Value} {fa ca : List Value} {tys : Array TypeId} (hx : opv env x = some (.func (.func f) fa.toArray ca.toArray)) (hc : OpVs env l vs) (ha : fa ++ vs ++ ca = args) (hf : ∀ (args : Array Value) (w : World), (callFunc f args).run P w = .ok (.enter f args) w) (hd : dok n d = true)
    (hL : PureAt P w0 H f args v) (h : W P rd w0 Q n ds (.ops all rest :: k) (put d v env) H) :
    W P rd w0 Q n ds (.ops all (⟨d, .call ⟨.value x, l.toArray, tys⟩, t, pos, aft, none⟩ :: rest) :: k) env H := by
  subst ha
  refine W_callv hx hc hf hd (R := fun v' H' => v' = v ∧ H' = H) ?_ (by rintro v' H' ⟨rfl, rfl⟩; exact h)
  have := hL
  unfold PureAt at this
  simpa using this
theorem WQ_callq {ops : Array Oper} {f : FuncId} {l : List Operand} {vs : List Value} {d : Option Nat} {tys : Array TypeId} (hc : OpVs env l vs) (hf : ∀ (args : Array Value) (w : World), (callFunc f args).run P w = .ok (.enter f args) w) (hd : dok n d = true)
    (hL : PureAt P w0 H f vs v) (h : WQ P w0 Q n ds k ops rest (put d v env) H) :
    WQ P w0 Q n ds k ops (⟨d, .call ⟨.value (.func f), l.toArray, tys⟩, ty, pos, aft, none⟩ :: rest) env H := fun a ha hds => by
  refine ⟨fun _ _ _ _ => trivial, ?_⟩
  rw [if_pos (by simp [Region.wanted])]
  refine ⟨v, fun w hs => ?_, h _ (ha.put hd) (by cases d <;> exact hds)⟩
  unfold Oper.quietAtIn
  have hl : l.map a.eval = vs := ha.opvs hc
  rw [show (execOp a.eval ⟨d, .call ⟨.value (.func f), l.toArray, tys⟩, ty, pos, aft, none⟩).run P w = .ok (.enter f vs.toArray) w by
    simp [execOp, resolve, Act.eval, Deferred.ofValue, invoke, hl, hf, Result.andThen]]
  refine ⟨rfl, fun h => by simp [Fence.wide] at h, ?_⟩
  have hcl : CallsIn (fen none) 0 P f vs.toArray w _ := hL w hs
  exact hcl.mono fun e w'' ⟨v', H', he, ⟨hv, hH⟩, hs'⟩ => ⟨by rw [he, hv], by rw [← hH]; exact hs'⟩
theorem wpIn_scope {F : Fence} {n : Nat} {c : Code} {a : Act} {w : World} {Q : Exit → Act → World → Prop} (hQ : ∀ l a w, Q (.goto l) a w → False) (h : c.wpIn F n P Q a w) : (Code.scope c).wpIn F n P Q a w := by
  intro b k cs hro hb hr
  have s1 : step P (lone (b.atR a (.code (.scope c) :: k)) cs w) = .next (lone (b.atR a (.code c :: .inScope c :: k)) cs w) := step_lone_go (by simp [stepG, stepG.exec, Frame.atR])
  have h0 : (lone (b.atR a (.code (.scope c) :: k)) cs w).fenced P F := fenced_calm hb hr rfl
  have hx : ∀ id, exitTo id (.inScope c :: k) = exitTo id k := fun id => by simp [exitTo]
  obtain ⟨e, a₁, w₁, hq, harr⟩ := h b (.inScope c :: k) cs hro hb hr
  cases e with
  | normal =>
    have s2 : step P (lone (b.atR a₁ (.inScope c :: k)) cs w₁) = .next (lone (b.atR a₁ k) cs w₁) := step_lone_go (by simp [stepG, stepG.exec, Frame.atR])
    exact ⟨.normal, a₁, w₁, hq, .head h0 s1 (StepsIn.trans harr (.one (fenced_calm (fr := b.atR a₁ (.inScope c :: k)) hb hr rfl) s2))⟩
  | exit id =>
    exact ⟨.exit id, a₁, w₁, hq, fun k' hk => .head h0 s1 (harr.1 k' (by rw [hx]; exact hk)),
      fun hr' hk => let ⟨k₁, h1, h2⟩ := harr.2 hr' (by rw [hx]; exact hk); ⟨k₁, h1, .head h0 s1 h2⟩⟩
  | goto l => exact (hQ l a₁ w₁ hq).elim
  | ret => exact ⟨_, a₁, w₁, hq, .of_steps (.one h0 s1) harr⟩
  | panic ch => exact ⟨_, a₁, w₁, hq, .of_steps (.one h0 s1) harr⟩
  | outgrown => exact ⟨_, a₁, w₁, hq, .of_steps (.one h0 s1) harr⟩
end
end Go.Sl
namespace Go.Sl
open Go.RowKit
section
variable {P : Program} {rd : Option Nat} {w0 : World} {Q : Exit → Act → World → Prop} {n : Nat} {ds : List Deferred} {k : List It} {env : Env} {H : Heap}
theorem W_loopC {X : Type} {c : Code} (C : Env) (E : X → Env) (DS : X → List Deferred) (HH : X → Heap) (I : X → Prop) (μ : X → Nat) (x0 : X) (h0 : I x0) (hc : sub C env) (he : sub (E x0) env) (hd0 : ds = DS x0) (hh : HSub H (HH x0))
    (round : ∀ x, I x → W P rd w0 Q n (DS x) (.code c :: .goal (fun a w => ∃ x', I x' ∧ μ x' < μ x ∧ Agree n (E x' ++ C) a ∧ a.defers = DS x' ∧ Sat w0 (HH x') w) :: k) (E x ++ C) (HH x)) :
    W P rd w0 Q n ds (.code (.loop c) :: k) env H :=
  W_loopD (fun x => E x ++ C) DS HH I μ x0 h0 (fun p hp => (List.mem_append.1 hp).elim (he p) (hc p)) hd0 hh round
variable {H' : Heap} {all : Array Oper} {rest : List Oper} {d : Nat} {x y c : Operand} {t u ty : TypeId} {pos : String} {aft : Array Edge} {v : Value}
end
end Go.Sl
namespace Go.Sl
open Go.RowKit
inductive Res1 (P : Program) (w0 : World) (env : Env) (H : Heap) : ResultVar → Value → Prop
  | tmp {t : Nat} {v : Value} (h : look env t = some v) : Res1 P w0 env H (.tmp t) v
  | own {t ty b s e tot by_ : Nat} {td : TypeDesc} {z : Value} {vs : List Value} (hv : look env t = some (.pointer (some ⟨b, 0, none⟩))) (ht : Ty P ty td s z by_) (hf : flat td = false) (hm : (b, Blk.cells e tot vs) ∈ H) (hl : vs.length = s) : Res1 P w0 env H (.cell t ty) (.agg vs.toArray)
  | one {t ty b i s by_ : Nat} {td : TypeDesc} {z v : Value} (hv : look env t = some (.pointer (some ⟨b, i, none⟩))) (ht : Ty P ty td s z by_) (hf : flat td = true) (hc : Cell w0 H b i v) : Res1 P w0 env H (.cell t ty) v
def resOf (tmps : Array Value) : ResultVar → Sem Value
  | .tmp t => pure (tmps.getD t undef)
  | .cell a t => do loadVar t (← asAddr (tmps.getD a undef))
theorem Res1.run {P : Program} {w0 w : World} {env : Env} {H : Heap} {r : ResultVar} {v : Value} {n : Nat} {a : Act} (h : Res1 P w0 env H r v) (ha : Agree n env a) (hs : Sat w0 H w) : (resOf a.tmps r).run P w = .ok v w := by
  cases h with
  | tmp h => simp [resOf, ha.val _ _ h]
  | @own t ty b s e tot by_ td z vs hv ht hf hm hl =>
    have hc : Cells w0 H b 0 vs := Cells.own hm (by simp)
    have hcs := run_loadCells_list (P := P) (w := w) ⟨b, 0, none⟩ vs (fun j u hu => by rw [addr_add]; exact hc j u hu w hs)
    rw [hl] at hcs
    simp [resOf, ha.val _ _ hv, asAddr, loadVar, ht.isAgg, ht.size, hf, hcs, Result.andThen]
  | one hv ht hf hc => simp [resOf, ha.val _ _ hv, asAddr, loadVar, ht.isAgg, hf, hc w hs, Result.andThen]
section
variable {P : Program} {w0 : World} {fn : Func} {R : Value → Heap → Prop} {n : Nat} {ds : List Deferred} {k : List It} {env : Env} {H H' H2 : Heap} {r1 r2 r3 : ResultVar} {v1 v2 v3 : Value}
end
end Go.Sl
namespace Go.Sl
open Go.RowKit
section
variable {P : Program} {rd : Option Nat} {w0 : World} {Q : Exit → Act → World → Prop} {n : Nat} {ds : List Deferred} {k : List It} {env env' : Env} {H H' : Heap} {all : Array Oper} {rest : List Oper}
variable {d : Nat} {x y c : Operand} {t u ty : TypeId} {pos : String} {aft : Array Edge} {v : Value}
def b8 (l : List Int) : List UInt8 := l.map fun z => UInt8.ofNat z.toNat
end
end Go.Sl
namespace Go.Sl
open Go.RowKit
section
variable {P : Program} {ops : Array Oper} {C : World → Prop} {Q : Exit → Act → World → Prop}
def anyC (P : Program) (ops : Array Oper) (C : World → Prop) (Q : Exit → Act → World → Prop) : Nat → Array Bool → Act → World → Prop
  | 0, l, a, w => C w ∧ Region.ready .any ops l = [] ∧ Q .normal a w
  | f + 1, l, a, w => C w ∧ (Region.ready .any ops l = [] → Q .normal a w) ∧ ∀ i ∈ Region.ready .any ops l, wpOpIn (fen none) 0 P ops Q i (anyC P ops C Q f (l.setIfInBounds i true)) a w
theorem anyC.here {f : Nat} {l : Array Bool} {a : Act} {w : World} (h : anyC P ops C Q f l a w) : C w := by
  cases f <;> exact h.1
theorem anyC.any : ∀ {f : Nat} {l : Array Bool} {a : Act} {w : World}, anyC P ops C Q f l a w → wpAnyIn (fen none) 0 P .any ops Q f l a w
  | 0, _, _, _, h => h.2
  | f + 1, _, _, _, h => ⟨h.2.1, fun i hi => wpOpIn_mono (fun _ _ h => h.any) (h.2.2 i hi)⟩
structure TakesC (P : Program) (ops : Array Oper) (C : World → Prop) (o : Oper) (v : Value) (a : Act) : Prop where
  wanted : Region.wanted o (yielded ops a.tmps) = true
  run : ∀ w, C w → (execOp a.eval o).run P w = .ok (.value v) w
  about : ∀ w, C w → o.about P w a.eval = none
structure PassC (P : Program) (ops : Array Oper) (o o' : Oper) (a a' : Act) : Prop where
  run : execOp a'.eval o = execOp a.eval o
  wanted : Region.wanted o (yielded ops a'.tmps) = Region.wanted o (yielded ops a.tmps)
  about : ∀ w, o.about P w a'.eval = o.about P w a.eval
theorem TakesC.pass {o o' : Oper} {v : Value} {a a' : Act} (h : TakesC P ops C o v a) (hs : PassC P ops o o' a a') : TakesC P ops C o v a' :=
  ⟨hs.wanted.trans h.wanted, fun w hw => by rw [hs.run]; exact h.run w hw, fun w hw => by rw [hs.about]; exact h.about w hw⟩
theorem TakesC.op {i : Nat} {o : Oper} {v : Value} {a : Act} {w : World} {K : Act → World → Prop} (hi : ops[i]? = some o) (hy : TakesC P ops C o v a) (hw : C w) (h : K (a.put o.dst v) w) : wpOpIn (fen none) 0 P ops Q i K a w := by
  unfold Go.wpOpIn
  simp only [hi, hy.wanted, if_true, Oper.wpIn, Oper.semAt_none, hy.run w hw, Oper.uponIn]
  exact ⟨fun f hf => (by rw [hy.about w hw] at hf; cases hf), h⟩
theorem op_putC {j : Nat} {oi oj : Oper} {v : Value} (hj : ops[j]? = some oj) (hap : oi.apart ops oj = true) (hsi : ∀ cs b, oi.op ≠ .select cs b) (hsj : ∀ cs b, oj.op ≠ .select cs b)
    (hQ : ∀ c a w, Q (.panic c) (a.put oi.dst v) w → Q (.panic c) a w) {K : Act → World → Prop} {a : Act} {w : World} (h : wpOpIn (fen none) 0 P ops Q j K (a.put oi.dst v) w) :
    wpOpIn (fen none) 0 P ops Q j (fun a' w' => PassC P ops oi oj a a' ∧ K (a'.put oi.dst v) w') a w := by
  obtain ⟨h1, h2, h3⟩ := Oper.apart_spec hap
  have keep : ∀ u, PassC P ops oi oj a (a.put oj.dst u) := fun u => ⟨execOp_put oi hsi a oj.dst u h3, wanted_put oi a oj.dst u h3, fun w => about_put oi w a oj.dst u h3⟩
  have keepD : ∀ d u, PassC P ops oi oj a (Act.put { a with defers := d :: a.defers } oj.dst u) := fun d u => by
    have h := (⟨execOp_put oi hsi { a with defers := d :: a.defers } oj.dst u h3, wanted_put oi { a with defers := d :: a.defers } oj.dst u h3, fun w => about_put oi w { a with defers := d :: a.defers } oj.dst u h3⟩ : PassC P ops oi oj { a with defers := d :: a.defers } _)
    exact ⟨h.run, h.wanted, h.about⟩
  unfold wpOpIn at *
  simp only [hj] at *
  rw [wanted_put oj a oi.dst v h1, about_put oj w a oi.dst v h1] at h
  split
  · rename_i hw
    simp only [hw, if_true] at h
    unfold Oper.wpIn at *
    rw [about_put oj w a oi.dst v h1] at h
    refine ⟨h.1, ?_⟩
    have h := h.2
    rw [Oper.semAt_none, execOp_put oj hsj a oi.dst v h1] at h
    rw [Oper.semAt_none]
    generalize (execOp a.eval oj).run P w = r at *
    cases r with
    | ok x w' =>
      cases x <;> simp only [Oper.uponIn] at h ⊢
      case value u => exact ⟨keep u, by rw [← Act.put_comm a v u h2]; exact h⟩
      case skip => exact ⟨keep _, by rw [← Act.put_comm a v undef h2]; exact h⟩
      case defer d =>
        refine ⟨keepD d _, ?_⟩
        rw [← Act.put_comm _ v undef h2, ← Act.put_defers]
        exact h
      case enter f args =>
        refine ⟨h.1, CallsIn.mono h.2 fun e w'' he => ?_⟩
        cases e with
        | returned u => exact ⟨keep u, by rw [← Act.put_comm a v u h2]; exact he⟩
        | panicked c => exact hQ _ _ _ he
        | outgrown => exact he
      case row row args => exact ⟨h.1, RowsIn.mono h.2 fun u w'' he => ⟨keep u, by rw [← Act.put_comm a v u h2]; exact he⟩⟩
      case round l f tmps assign body =>
        refine ⟨h.1, RoundIn.mono h.2 fun e w'' he => ?_⟩
        cases e with
        | returned u => exact ⟨keep u, by rw [← Act.put_comm a v u h2]; exact he⟩
        | panicked c => exact hQ _ _ _ he
        | outgrown => exact he
    | halt x w' =>
      cases x <;> simp only [Oper.uponIn] at h ⊢
      case panic u => exact hQ _ _ _ h
  · rename_i hw
    simp only [hw] at h
    exact ⟨h.1, keep _, by rw [← Act.put_comm a v undef h2]; exact h.2⟩
theorem anyC_first {i : Nat} {oi : Oper} {v : Value} (hi : ops[i]? = some oi) (hsel : ∀ (j : Nat) (o : Oper) cs b, ops[j]? = some o → o.op ≠ .select cs b) (hQ : ∀ c a w, Q (.panic c) (a.put oi.dst v) w → Q (.panic c) a w) :
    ∀ (f : Nat) (l : Array Bool) (a : Act) (w : World),
      (∀ j oj, ops[j]? = some oj → j ≠ i → l.getD j true = false → (∀ e ∈ oj.after, Region.binds .any e = true → e.on ≠ i) → oi.apart ops oj = true) →
      i ∈ Region.ready .any ops l → TakesC P ops C oi v a → anyC P ops C Q f (l.setIfInBounds i true) (a.put oi.dst v) w → anyC P ops C Q (f + 1) l a w := by
  intro f
  induction f with
  | zero =>
    intro l a w _ hr hy H
    refine ⟨H.1, fun h => (by rw [h] at hr; cases hr), fun j hj => ?_⟩
    by_cases hji : j = i
    · subst hji; exact hy.op hi H.1 H
    · have := ready_mono hj hji
      rw [H.2.1] at this
      cases this
  | succ f ih =>
    intro l a w hfree hr hy H
    refine ⟨H.1, fun h => (by rw [h] at hr; cases hr), fun j hj => ?_⟩
    by_cases hji : j = i
    · subst hji; exact hy.op hi H.1 H
    · have h1 := H.2.2 j (ready_mono hj hji)
      obtain ⟨hjun, oj, hoj, hall⟩ := mem_ready.1 hj
      have hnot : ∀ e ∈ oj.after, Region.binds .any e = true → e.on ≠ i := fun e he hb heq => by
        have h1 := hall e he hb
        have h0 := (mem_ready.1 hr).1
        rw [heq] at h1
        rcases Nat.lt_or_ge i l.size with h' | h'
        · simp [h'] at h0 h1; rw [h0] at h1; cases h1
        · simp [Array.getElem?_eq_none h'] at h1
      have h2 := op_putC hoj (hfree j oj hoj hji hjun hnot) (fun cs b => hsel i oi cs b hi) (fun cs b => hsel j oj cs b hoj) hQ h1
      have hfree' : ∀ k ok, ops[k]? = some ok → k ≠ i → (l.setIfInBounds j true).getD k true = false →
          (∀ e ∈ ok.after, Region.binds .any e = true → e.on ≠ i) → oi.apart ops ok = true := fun k ok hk hki hun hno => by
        refine hfree k ok hk hki ?_ hno
        by_cases hjk : j = k
        · subst hjk; exact hjun
        · rw [getD_set_ne true hjk] at hun; exact hun
      refine wpOpIn_mono (fun a' w' h3 => ih (l.setIfInBounds j true) a' w' hfree' (ready_mono hr (Ne.symm hji)) (hy.pass h3.1) ?_) h2
      rw [Array.setIfInBounds_comm _ _ hji]
      exact h3.2
end
section
variable {P : Program} {w0 : World} {Q : Exit → Act → World → Prop} {n : Nat} {ds : List Deferred} {k : List It} {env env' : Env} {H H' Hc : Heap} {ops : Array Oper}
def WC (P : Program) (w0 : World) (Q : Exit → Act → World → Prop) (n : Nat) (ds : List Deferred) (k : List It) (ops : Array Oper) (Hc : Heap) (fuel : Nat) (listed : Array Bool) (env : Env) (H : Heap) : Prop :=
  ∀ a w, Agree n env a → a.defers = ds → Sat w0 H w → anyC P ops (Sat w0 Hc) (Q0 P Q k) fuel listed a w
theorem W_anyC {id : Nat} {l : List Oper} (Hc : Heap) (hm : P.follows .mixedOrders = true) (h : WC P w0 Q n ds k l.toArray Hc l.length (Array.replicate l.length false) env H) : W P none w0 Q n ds (.code (.region id l.toArray true) :: k) env H := by
  intro a w ha hd hs
  show (Code.region id l.toArray true).wpIn (fen none) 0 P (Cont P none Q k) a w
  exact wpIn_mono (wpIn_region_any hm (by simpa using (h a _ ha hd hs.drew).any)) fun _ _ _ => Q0_of
theorem WC_done {fuel : Nat} {listed : Array Bool} (hh : HSub H Hc) (hr : Region.ready .any ops listed = []) (h : W P none w0 Q n ds k env H) : WC P w0 Q n ds k ops Hc fuel listed env H := fun a w ha hd hs => by
  have hq : Q0 P Q k .normal a w := h a w ha hd hs
  cases fuel with
  | zero => exact ⟨hs.hsub hh, hr, hq⟩
  | succ f => exact ⟨hs.hsub hh, fun _ => hq, by rw [hr]; simp⟩
def NoCall : Op → Bool
  | .call ⟨.builtin _, _, _⟩ => true
  | .call _ => false
  | _ => true
theorem about_nocall {o : Oper} (h : NoCall o.op = true) (w : World) (ρ : Operand → Value) : o.about P w ρ = none := by
  unfold Oper.about
  cases ho : o.op <;> first | rfl | skip
  rename_i c
  obtain ⟨c, args, tys⟩ := c
  rw [ho] at h
  cases c with
  | builtin b => simp [resolve, Result.andThen, Target.leads]
  | _ => simp [NoCall] at h
theorem WC_take (i : Nat) {op : Op} {ty : TypeId} {v : Value} {d : Nat} {pos : String} {aft : Array Edge} {fuel : Nat} {listed l' : Array Bool} (hi : ops[i]? = some ⟨some d, op, ty, pos, aft, none⟩) (hs : Region.noSelect ops = true) (hf : Region.free .any ops listed i = true) (hr : (Region.ready .any ops listed).contains i = true)
    (hcall : NoCall op = true) (hl : listed.setIfInBounds i true = l') (hx : Ex P n env (Sat w0 Hc) op ty v) (hd : Nat.blt d n = true)
    (h : WC P w0 Q n ds k ops Hc fuel l' ((d, v) :: env) H) : WC P w0 Q n ds k ops Hc (fuel + 1) listed env H := fun a w ha hds hsat => by
  subst hl
  exact anyC_first hi (Region.noSelect_spec hs) (fun _ _ _ hq => hq.elim) fuel listed a w (Region.free_spec hi hf) (by simpa using hr)
    ⟨by simp [Region.wanted], fun w hw => hx a w _ _ _ _ ha hw, fun w _ => about_nocall hcall w _⟩ (h _ w (ha.put (d := some d) hd) hds hsat)
theorem wc_op {i : Nat} {o : Oper} {K : Act → World → Prop} {a : Act} {w : World} (hi : ops[i]? = some o) (h1 : wpListIn (fen none) 0 P ops (Cont P none (fun _ _ _ => False) [.goal K]) [o] a w) : wpOpIn (fen none) 0 P ops (Q0 P Q k) i K a w := by
  unfold wpOpIn
  rw [hi]
  unfold wpListIn at h1
  show if _ then _ else _
  split
  · rename_i hw
    rw [if_pos hw] at h1
    unfold Oper.wpIn
    refine ⟨h1.1, ?_⟩
    have h2 := h1.2
    generalize (o.semAt (fen none).round a.eval).run P w = r at h2 ⊢
    cases r with
    | ok x w' =>
      cases x <;> simp only [Oper.uponIn] at h2 ⊢ <;>
        first
          | exact h2
          | exact ⟨h2.1, CallsIn.mono h2.2 (fun e w'' he => by cases e <;> first | exact he | exact he.elim | (obtain ⟨_, _, hf⟩ := he; exact hf.elim))⟩
          | exact ⟨h2.1, RowsIn.mono h2.2 (fun _ _ he => he)⟩
          | exact ⟨h2.1, RoundIn.mono h2.2 (fun e w'' he => by cases e <;> first | exact he | exact he.elim | (obtain ⟨_, _, hf⟩ := he; exact hf.elim))⟩
    | halt x w' => cases x <;> simp only [Oper.uponIn] at h2 ⊢ <;> first | exact h2 | exact h2.elim
  · rename_i hw
    rw [if_neg hw] at h1
    exact h1
theorem WC_one (i : Nat) {o : Oper} {fuel : Nat} {listed l' : Array Bool} (hh : HSub H Hc) (hr : Region.ready .any ops listed = [i]) (hi : ops[i]? = some o) (hl : listed.setIfInBounds i true = l')
    (h : W P none w0 (fun _ _ _ => False) n ds [.ops ops [o], .goal (fun a w => anyC P ops (Sat w0 Hc) (Q0 P Q k) fuel l' a w)] env H) : WC P w0 Q n ds k ops Hc (fuel + 1) listed env H := fun a w ha hds hsat => by
  subst hl
  refine ⟨hsat.hsub hh, fun h0 => (by rw [hr] at h0; cases h0), fun j hj => ?_⟩
  rw [hr] at hj
  obtain rfl : j = i := by simpa using hj
  exact wc_op hi (h a w ha hds hsat)
theorem WC_goal {fuel : Nat} {l' : Array Bool} {k' : List It} {Q' : Exit → Act → World → Prop} (h : WC P w0 Q n ds k ops Hc fuel l' env H) : W P none w0 Q' n ds (.goal (fun a w => anyC P ops (Sat w0 Hc) (Q0 P Q k) fuel l' a w) :: k') env H :=
  W_goal fun a w ha hd hs => h a w ha hd hs
end
end Go.Sl
namespace Go.Sl
open Go.RowKit
section
variable {P : Program} {rd : Option Nat} {w0 : World} {Q : Exit → Act → World → Prop} {n : Nat} {ds : List Deferred} {k : List It} {env env' : Env} {H H' : Heap}
theorem X_build {t ty : TypeId} {s by_ : Nat} {z : Value} {td : TypeDesc} {pl : List (Nat × Nat)} {parts : List (Nat × Operand)} {ps : List (Nat × List Value)} {l : List Value} {C : World → Prop} (ht : Ty P t td s z by_) (hst : StructPl P t pl)
    (hp : Parts env (fun i => pl[i]?) s parts ps) (hz : Nat.beq z.cells.size s = true) (hl : fillL z.cells.toList ps = l) : Ex P n env C (.build t parts.toArray) ty (.agg l.toArray) := fun a w d pos aft g ha _ => by
  obtain ⟨fs, h1, h2⟩ := hst.is
  obtain ⟨out, ho, hol⟩ := hp.run ha (cells := z.cells) (by simpa using hz)
  have hout : out = l.toArray := by apply Array.ext'; rw [hol, hl]
  have h2' := h2 w
  have ho' : Instr.fill (pl.toArray[·]?) z.cells (parts.map fun (i, x) => (i, a.eval x)) = some out := by simpa using ho
  have hr : (Instr.build t (parts.map fun (i, x) => (i, a.eval x)).toArray).run P w = .ok (.agg l.toArray) w := by
    unfold Instr.build
    simp only [Sem.run_bind, ht.zero, Result.andThen, run_underlying h1]
    rw [h2']
    simp only [ho', hout, Sem.run_pure]
  simp [execOp, hr, Result.andThen]
theorem Holds.drop {b o o' m cap : Nat} {xs : List Value} (h : Holds w0 H (some ⟨b, o, none⟩) xs) (hl : xs.length ≤ cap) (ho : m < cap → o' = o + m) : Holds w0 H (some ⟨b, o', none⟩) (xs.drop m) := fun j x hx => by
  rw [List.getElem?_drop] at hx
  have hj := (List.getElem?_eq_some_iff.1 hx).1
  obtain ⟨b1, o1, e, hc⟩ := h _ _ hx
  cases e
  rw [ho (by omega)]
  exact ⟨b, _, rfl, by rw [Nat.add_assoc]; exact hc⟩
end
end Go.Sl
namespace Go.Sl
open Go.RowKit
section
variable {P : Program} {rd : Option Nat} {w0 : World} {Q : Exit → Act → World → Prop} {n : Nat} {ds : List Deferred} {k : List It} {env env' : Env} {H H' : Heap} {all : Array Oper} {rest : List Oper}
variable {d : Nat} {x y c : Operand} {t u ty : TypeId} {pos : String} {aft : Array Edge} {v : Value}
theorem run_ptrNil {ad : Option Addr} {s by_ : Nat} {e : TypeId} {z : Value} (ht : Ty P t (.pointer e) s z by_) (w : World) : (Op.equal t (.pointer ad) (.pointer none)).run P w = .ok ad.isNone w := by
  have h1 : ∀ m, (Op.equalIn (m + 1) t (.pointer ad) (.pointer none)).run P w = .ok ad.isNone w := fun m => by
    simp only [Op.equalIn, Sem.run_bind, ht.run, Result.andThen]
    cases ad <;> rfl
  exact h1 9999
theorem X_ptrNil {ad : Option Addr} {s by_ : Nat} {e : TypeId} {z : Value} {C : World → Prop} (hx : opv env x = some (.pointer ad)) (hy : opv env y = some (.pointer none)) (ht : Ty P t (.pointer e) s z by_) :
    Ex P n env C (.binOp .eql t x y u) ty (.bool ad.isNone) := fun a w d pos aft g ha _ => by
  have he : (eqGuard .eql t x y (.pointer ad) (.pointer none)).run P w = .ok () w := by simp [eqGuard]
  have h2 : (Go.binOp .eql t (.pointer ad) (.pointer none)).run P w = .ok (.bool ad.isNone) w := by
    simp [Go.binOp, run_ptrNil ht, Result.andThen]
  simp [execOp, ha.opv hx, ha.opv hy, he, h2, Result.andThen]
theorem X_ptrNotNil {ad : Option Addr} {s by_ : Nat} {e : TypeId} {z : Value} {C : World → Prop} (hx : opv env x = some (.pointer ad)) (hy : opv env y = some (.pointer none)) (ht : Ty P t (.pointer e) s z by_) :
    Ex P n env C (.binOp .neq t x y u) ty (.bool (!ad.isNone)) := fun a w d pos aft g ha _ => by
  have he : (eqGuard .neq t x y (.pointer ad) (.pointer none)).run P w = .ok () w := by simp [eqGuard]
  have h2 : (Go.binOp .neq t (.pointer ad) (.pointer none)).run P w = .ok (.bool (!ad.isNone)) w := by
    simp [Go.binOp, run_ptrNil ht, Result.andThen]
  simp [execOp, ha.opv hx, ha.opv hy, he, h2, Result.andThen]
end
end Go.Sl
namespace Go.Sl
open Go.RowKit
inductive Leaf where
  | int (q : IntKind)
  | bool
  | string
def Leaf.is : Leaf → Value → Prop
  | .int q, v => ∃ m, v = .int q m ∧ q.min ≤ m ∧ m ≤ q.max
  | .bool, v => ∃ b, v = .bool b
  | .string, v => ∃ s : ByteArray, v = .string s ∧ s.size ≤ maxLen
def Leaf.like : Leaf → Value → Prop
  | .int q, v => ∃ m, v = .int q m
  | .bool, v => ∃ b, v = .bool b
  | .string, v => ∃ s : ByteArray, v = .string s
def Likes : List Leaf → List Value → Prop
  | [], [] => True
  | k :: ks, v :: vs => k.like v ∧ Likes ks vs
  | _, _ => False
theorem likes_append : ∀ {ks ls : List Leaf} {zs : List Value}, Likes (ks ++ ls) zs → ∃ xs ys, zs = xs ++ ys ∧ Likes ks xs ∧ Likes ls ys
  | [], ls, zs, h => ⟨[], zs, rfl, trivial, h⟩
  | k :: ks, ls, [], h => h.elim
  | k :: ks, ls, z :: zs, h => by
    obtain ⟨xs, ys, rfl, h1, h2⟩ := likes_append (ks := ks) h.2
    exact ⟨z :: xs, ys, rfl, ⟨h.1, h1⟩, h2⟩
theorem likes_length : ∀ {ks : List Leaf} {xs : List Value}, Likes ks xs → xs.length = ks.length
  | [], [], _ => rfl
  | k :: ks, x :: xs, h => congrArg (· + 1) (likes_length h.2)
  | [], _ :: _, h => h.elim
  | _ :: _, [], h => h.elim
inductive FlatFs (P : Program) (F : TypeId → List Leaf → Prop) : List Field → Nat → List Leaf → Prop
  | nil {off : Nat} : FlatFs P F [] off []
  | cons {f : Field} {fs : List Field} {off : Nat} {ks ls : List Leaf} (hn : f.name ≠ "_") (ho : f.offset = off) (hc : P.cellsOf f.type = ks.length) (h : F f.type ks) (hs : FlatFs P F fs (off + ks.length) ls) : FlatFs P F (f :: fs) off (ks ++ ls)
def Leaf.desc : Leaf → TypeDesc
  | .int q => .int q
  | .bool => .bool
  | .string => .string
def Flat (P : Program) : Nat → TypeId → List Leaf → Prop
  | 0, t, ks => ∃ (k : Leaf) (s by_ : Nat) (z : Value), ks = [k] ∧ Ty P t k.desc s z by_
  | n + 1, t, ks => (∃ (k : Leaf) (s by_ : Nat) (z : Value), ks = [k] ∧ Ty P t k.desc s z by_) ∨
    (∃ (s by_ : Nat) (z : Value) (fs : Array Field), Ty P t (.struct fs) s z by_ ∧ P.stoodInHeld t = false ∧ P.cellsOf t = ks.length ∧ FlatFs P (Flat P n) fs.toList 0 ks) ∨
    (∃ (m : Nat) (e : TypeId) (s by_ : Nat) (z : Value) (ls : List Leaf), ks = (List.replicate m ls).flatten ∧ Ty P t (.array m e) s z by_ ∧ P.cellsOf e = ls.length ∧ P.cellsOf t = ks.length ∧ Flat P n e ls)
theorem Flat.leaf {P : Program} {n : Nat} {t : TypeId} {s by_ : Nat} {z : Value} {k : Leaf} (ht : Ty P t k.desc s z by_) : Flat P n t [k] := by
  cases n with
  | zero => exact ⟨k, s, by_, z, rfl, ht⟩
  | succ n => exact .inl ⟨k, s, by_, z, rfl, ht⟩
theorem Flat.struct {P : Program} {n : Nat} {t : TypeId} {s by_ : Nat} {z : Value} {fs : Array Field} {ks : List Leaf} (ht : Ty P t (.struct fs) s z by_) (hp : P.stoodInHeld t = false) (hc : P.cellsOf t = ks.length) (h : FlatFs P (Flat P n) fs.toList 0 ks) : Flat P (n + 1) t ks :=
  .inr (.inl ⟨s, by_, z, fs, ht, hp, hc, h⟩)
theorem Flat.array {P : Program} {n m : Nat} {t e : TypeId} {s by_ : Nat} {z : Value} {ls ks : List Leaf} (ht : Ty P t (.array m e) s z by_) (hks : ks = (List.replicate m ls).flatten) (hce : P.cellsOf e = ls.length) (hc : P.cellsOf t = ks.length) (h : Flat P n e ls) : Flat P (n + 1) t ks :=
  .inr (.inr ⟨m, e, s, by_, z, ls, hks, ht, hce, hc, h⟩)
section
variable {P : Program} {H : Type} {enc : TypeId × Value → H} {w : World} {base : Nat} {spare : Nat → Bool} {held : Bool}
theorem wf_bd {q : IntKind} {m : Int} (h : (Lit.int q m).wf = true) : q.min ≤ m ∧ m ≤ q.max := by
  simpa [Lit.wf] using h
end
end Go.Sl
namespace Go.Sl
open Go.RowKit
def aggB (P : Program) (t : TypeId) : Bool :=
  match P.underlying t with
  | some (.struct _) | some (.array _ _) => true
  | _ => false
def valOf (P : Program) (t : TypeId) (xs : List Value) : Value := if aggB P t then .agg xs.toArray else xs.headD undef
section
variable {P : Program}
theorem leaf_aggB {t : TypeId} {s by_ : Nat} {z : Value} {k : Leaf} (ht : Ty P t k.desc s z by_) : aggB P t = false := by
  cases k <;> simp [aggB, ht.und, Leaf.desc]
theorem leaf_eq {t : TypeId} {s by_ : Nat} {z : Value} {k : Leaf} (ht : Ty P t k.desc s z by_) {xs ys : List Value} (hx : Likes [k] xs) (hy : Likes [k] ys) :
    ∃ r : Bool, (r = true ↔ xs = ys) ∧ ∀ d w, (Op.equalIn (d + 1) t (valOf P t xs) (valOf P t ys)).run P w = .ok r w := by
  have e1 : ∀ zs : List Value, Likes [k] zs → ∃ v, zs = [v] ∧ k.like v := fun zs h => by
    match zs, h with
    | [v], h => exact ⟨v, rfl, h.1⟩
  obtain ⟨a, rfl, ha⟩ := e1 xs hx
  obtain ⟨b, rfl, hb⟩ := e1 ys hy
  simp only [valOf, leaf_aggB ht, Bool.false_eq_true, if_false, List.headD_cons]
  cases k with
  | int q =>
    obtain ⟨m, rfl⟩ := ha
    obtain ⟨m', rfl⟩ := hb
    exact ⟨decide (m = m'), by simp, fun d w => eqv_int ht d w⟩
  | bool =>
    obtain ⟨m, rfl⟩ := ha
    obtain ⟨m', rfl⟩ := hb
    exact ⟨m == m', by simp, fun d w => eqv_bool ht d w⟩
  | string =>
    obtain ⟨m, rfl⟩ := ha
    obtain ⟨m', rfl⟩ := hb
    refine ⟨m.toList == m'.toList, ?_, fun d w => eqv_string ht d w⟩
    rw [beq_iff_eq, ByteArray.toList_eq, ByteArray.toList_eq]
    obtain ⟨⟨l⟩⟩ := m
    obtain ⟨⟨l'⟩⟩ := m'
    simp
theorem run_isAgg_of {t : TypeId} {d : TypeDesc} (hu : P.underlying t = some d) (w : World) : (isAgg t).run P w = .ok (aggB P t) w := by
  cases d <;> simp [isAgg, run_underlying hu, aggB, hu, Result.andThen]
theorem run_part {n : Nat} {t : TypeId} {ks : List Leaf} (hF : Flat P n t ks) (hc : P.cellsOf t = ks.length) (XS : Array Value) (off : Nat) (hl : Likes ks ((XS.toList.drop off).take ks.length)) (w : World) :
    (part t XS off).run P w = .ok (valOf P t ((XS.toList.drop off).take ks.length)) w := by
  have leaf : ∀ (k : Leaf) (s by_ : Nat) (z : Value), ks = [k] → Ty P t k.desc s z by_ → (part t XS off).run P w = .ok (valOf P t ((XS.toList.drop off).take ks.length)) w := fun k s by_ z e ht => by
    subst e
    have h1 : ∃ v, (XS.toList.drop off).take 1 = [v] := by
      have hl' : Likes [k] ((XS.toList.drop off).take 1) := hl
      generalize (XS.toList.drop off).take 1 = zs at hl'
      match zs, hl' with
      | [v], _ => exact ⟨v, rfl⟩
    obtain ⟨v, hv⟩ := h1
    have hg := getElem?_of_chunk hv
    simp only [List.length_cons, List.length_nil, Nat.zero_add, hv, valOf, leaf_aggB ht, Bool.false_eq_true, if_false, List.headD_cons]
    simp [part, run_isAgg_of ht.und, leaf_aggB ht, hg, Result.andThen]
  have agg : ∀ (d : TypeDesc) (s by_ : Nat) (z : Value), Ty P t d s z by_ → aggB P t = true → (part t XS off).run P w = .ok (valOf P t ((XS.toList.drop off).take ks.length)) w := fun d s by_ z ht ha => by
    obtain ⟨i, hi, _⟩ := ht.info
    simp only [valOf, ha, if_true]
    have e : XS.extract off (off + P.cellsOf t) = ((XS.toList.drop off).take ks.length).toArray := by
      rw [← hc]
      apply Array.ext'
      simp
    simp [part, run_isAgg_of ht.und, ha, run_sizeOf w hi, e, Result.andThen]
  cases n with
  | zero => obtain ⟨k, s, by_, z, e, ht⟩ := hF; exact leaf k s by_ z e ht
  | succ n =>
    rcases hF with ⟨k, s, by_, z, e, ht⟩ | ⟨s, by_, z, fs, ht, _, _, _⟩ | ⟨m, e, s, by_, z, ls, _, ht, _, _, _⟩
    · exact leaf k s by_ z e ht
    · exact agg _ s by_ z ht (by simp [aggB, ht.und])
    · exact agg _ s by_ z ht (by simp [aggB, ht.und])
theorem likes_split {ks ls : List Leaf} {zs : List Value} (h : Likes (ks ++ ls) zs) : Likes ks (zs.take ks.length) ∧ Likes ls (zs.drop ks.length) := by
  obtain ⟨xs, ys, rfl, h1, h2⟩ := likes_append h
  have := likes_length h1
  rw [← this, List.take_left, List.drop_left]
  exact ⟨h1, h2⟩
theorem flat_eq : ∀ (n : Nat) {t : TypeId} {ks : List Leaf}, Flat P n t ks → ∀ {xs ys : List Value}, Likes ks xs → Likes ks ys →
    ∃ r : Bool, (r = true ↔ xs = ys) ∧ ∀ d w, (Op.equalIn (d + n + 1) t (valOf P t xs) (valOf P t ys)).run P w = .ok r w := by
  intro n
  induction n with
  | zero =>
    intro t ks hf xs ys hx hy
    obtain ⟨k, s, by_, z, rfl, ht⟩ := hf
    exact leaf_eq ht hx hy
  | succ n ih =>
    intro t ks hf xs ys hx hy
    rcases hf with ⟨k, s, by_, z, rfl, ht⟩ | ⟨s, by_, z, fs, ht, hp, hc, h⟩ | ⟨m, e, s, by_, z, ls, rfl, ht, hce, hc, h⟩
    · obtain ⟨r, h1, h2⟩ := leaf_eq ht hx hy
      exact ⟨r, h1, fun d w => h2 _ w⟩
    · have key : ∀ (l : List Field) (off : Nat) (ls : List Leaf), FlatFs P (Flat P n) l off ls → Likes ls (xs.drop off) → Likes ls (ys.drop off) →
          ∃ r : Bool, (r = true ↔ xs.drop off = ys.drop off) ∧ ∀ d w, (Op.eqFields (d + n + 1) xs.toArray ys.toArray l).run P w = .ok r w := by
        intro l off ls hl
        induction hl with
        | @nil off =>
          intro h1 h2
          refine ⟨true, ?_, fun d w => by simp [Op.eqFields]⟩
          have e : ∀ zs : List Value, Likes [] zs → zs = [] := fun zs h => by cases zs with
            | nil => rfl
            | cons _ _ => exact h.elim
          rw [e _ h1, e _ h2]; simp
        | @cons f fs off ks ls hn ho hcf hF hs ih2 =>
          intro h1 h2
          subst ho
          obtain ⟨a1, a2⟩ := likes_split h1
          obtain ⟨b1, b2⟩ := likes_split h2
          rw [List.drop_drop] at a2 b2
          obtain ⟨r, hr, hrun⟩ := ih hF a1 b1
          obtain ⟨r', hr', hrun'⟩ := ih2 a2 b2
          refine ⟨r && r', ?_, fun d w => ?_⟩
          · rw [Bool.and_eq_true, hr, hr']
            constructor
            · rintro ⟨e1, e2⟩
              rw [← List.take_append_drop ks.length (xs.drop f.offset), ← List.take_append_drop ks.length (ys.drop f.offset), e1, List.drop_drop, List.drop_drop, e2]
            · intro e
              exact ⟨by rw [e], by rw [← List.drop_drop, ← List.drop_drop, e]⟩
          · have p1 := run_part hF hcf xs.toArray f.offset (by simpa using a1) w
            have p2 := run_part hF hcf ys.toArray f.offset (by simpa using b1) w
            simp only [List.toList_toArray] at p1 p2
            simp only [Op.eqFields, if_pos hn, Sem.run_bind, p1, p2, hrun d w, Result.andThen_ok]
            cases r with
            | true => simpa using hrun' d w
            | false => simp
      obtain ⟨r, hr, hrun⟩ := key fs.toList 0 ks h (by simpa using hx) (by simpa using hy)
      refine ⟨r, by simpa using hr, fun d w => ?_⟩
      have hfs : P.fieldsOf t = fs := by simp [Program.fieldsOf, ht.und]
      have ha : aggB P t = true := by simp [aggB, ht.und]
      simp only [valOf, ha, if_true]
      rw [run_equalIn_struct w (d + (n + 1)) t _ _ (by rw [hfs]; exact ht.und) hp, hfs]
      exact hrun d w
    · have key : ∀ (r j : Nat), j + r = m → Likes (List.replicate r ls).flatten (xs.drop (j * ls.length)) → Likes (List.replicate r ls).flatten (ys.drop (j * ls.length)) →
          ∃ q : Bool, (q = true ↔ xs.drop (j * ls.length) = ys.drop (j * ls.length)) ∧ ∀ d w, (Op.eqItems (d + n + 1) e ls.length xs.toArray ys.toArray (List.range' j r)).run P w = .ok q w := by
        intro r
        induction r with
        | zero =>
          intro j hj h1 h2
          refine ⟨true, ?_, fun d w => by simp [Op.eqItems]⟩
          have e : ∀ zs : List Value, Likes [] zs → zs = [] := fun zs h => by cases zs with
            | nil => rfl
            | cons _ _ => exact h.elim
          simp only [List.replicate_zero, List.flatten_nil] at h1 h2
          rw [e _ h1, e _ h2]; simp
        | succ r ihr =>
          intro j hj h1 h2
          rw [List.replicate_succ, List.flatten_cons] at h1 h2
          obtain ⟨a1, a2⟩ := likes_split h1
          obtain ⟨b1, b2⟩ := likes_split h2
          have ej : (j + 1) * ls.length = j * ls.length + ls.length := by rw [Nat.add_mul, Nat.one_mul]
          rw [List.drop_drop, ← ej] at a2 b2
          obtain ⟨q, hq, hrun⟩ := ih h a1 b1
          obtain ⟨q', hq', hrun'⟩ := ihr (j + 1) (by omega) a2 b2
          refine ⟨q && q', ?_, fun d w => ?_⟩
          · rw [Bool.and_eq_true, hq, hq']
            constructor
            · rintro ⟨e1, e2⟩
              rw [← List.take_append_drop ls.length (xs.drop (j * ls.length)), ← List.take_append_drop ls.length (ys.drop (j * ls.length)), e1, List.drop_drop, List.drop_drop, ← ej, e2]
            · intro e
              exact ⟨by rw [e], by rw [ej, ← List.drop_drop, ← List.drop_drop, e]⟩
          · have p1 := run_part h hce xs.toArray (j * ls.length) (by simpa using a1) w
            have p2 := run_part h hce ys.toArray (j * ls.length) (by simpa using b1) w
            simp only [List.toList_toArray] at p1 p2
            simp only [List.range'_succ, Op.eqItems, Sem.run_bind, p1, p2, hrun d w, Result.andThen_ok]
            cases q with
            | true => simpa using hrun' d w
            | false => simp
      obtain ⟨q, hq, hrun⟩ := key m 0 (by omega) (by simpa using hx) (by simpa using hy)
      refine ⟨q, by simpa using hq, fun d w => ?_⟩
      have ha : aggB P t = true := by simp [aggB, ht.und]
      simp only [valOf, ha, if_true]
      have hie : ∃ i, P.info? e = some i := by
        have : P.underlying e ≠ none := by
          cases n with
          | zero => obtain ⟨k, s, by_, z, _, ht⟩ := h; rw [ht.und]; simp
          | succ n =>
            rcases h with ⟨k, s, by_, z, _, ht⟩ | ⟨s, by_, z, fs, ht, _, _, _⟩ | ⟨m, e, s, by_, z, ls, _, ht, _, _, _⟩ <;> (rw [ht.und]; simp)
        cases hu : P.underlying e with
        | none => exact absurd hu this
        | some d => exact info_of_underlying hu
      obtain ⟨i, hi⟩ := hie
      rw [run_equalIn_array w (d + (n + 1)) _ _ ht.und hi, hce, List.range_eq_range']
      exact hrun d w
end
section
variable {P : Program} {n : Nat} {env : Env} {x y : Operand} {t u ty : TypeId} {C : World → Prop}
theorem X_eqF {α : Type} [DecidableEq α] {f : α → List Value} {m : Nat} {ks : List Leaf} {a b : α} (hx : opv env x = some (.agg (f a).toArray)) (hy : opv env y = some (.agg (f b).toArray)) (hF : Flat P m t ks) (ha : aggB P t = true) (hl : ∀ z, Likes ks (f z)) (hinj : ∀ z z', f z = f z' → z = z') (hm : P.eqGuardType P.depth t = false) (hd : m ≤ 9999) :
    Ex P n env C (.binOp .eql t x y u) ty (.bool (decide (a = b))) := fun a' w d pos aft g ha' _ => by
  obtain ⟨r, hr, hrun⟩ := flat_eq m hF (hl a) (hl b)
  have h1 := hrun (9999 - m) w
  rw [show 9999 - m + m + 1 = 10000 by omega] at h1
  simp only [valOf, ha, if_true] at h1
  have e : r = decide (a = b) := by
    rw [Bool.eq_iff_iff, hr, decide_eq_true_eq]
    exact ⟨hinj _ _, fun e => by rw [e]⟩
  subst e
  simp [execOp, ha'.opv hx, ha'.opv hy, run_eqGuard_agg w .eql t x y _ _ hm, run_eql_struct, h1, Result.andThen]
end
end Go.Sl
namespace Go.Sl
open Go.RowKit
section
variable {P : Program} {ops : Array Oper} {C : World → Prop} {Q : Exit → Act → World → Prop}
def TakesG (P : Program) (ops : Array Oper) (C : World → Prop) (o : Oper) (v : Value) (a : Act) : Prop :=
  TakesC P ops C o v a ∨ (Region.wanted o (yielded ops a.tmps) = false ∧ v = undef)
theorem TakesG.pass {o o' : Oper} {v : Value} {a a' : Act} (h : TakesG P ops C o v a) (hs : PassC P ops o o' a a') : TakesG P ops C o v a' :=
  h.imp (·.pass hs) fun h => ⟨hs.wanted.trans h.1, h.2⟩
theorem TakesG.op {i : Nat} {o : Oper} {v : Value} {a : Act} {w : World} {K : Act → World → Prop} (hi : ops[i]? = some o) (hy : TakesG P ops C o v a) (hw : C w) (h : K (a.put o.dst v) w) : wpOpIn (fen none) 0 P ops Q i K a w := by
  rcases hy with hy | ⟨hy, rfl⟩
  · exact hy.op hi hw h
  · unfold Go.wpOpIn
    simp only [hi, hy, Bool.false_eq_true, if_false]
    exact ⟨fun _ _ => trivial, h⟩
theorem anyG_first {i : Nat} {oi : Oper} {v : Value} (hi : ops[i]? = some oi) (hsel : ∀ (j : Nat) (o : Oper) cs b, ops[j]? = some o → o.op ≠ .select cs b) (hQ : ∀ c a w, Q (.panic c) (a.put oi.dst v) w → Q (.panic c) a w) :
    ∀ (f : Nat) (l : Array Bool) (a : Act) (w : World),
      (∀ j oj, ops[j]? = some oj → j ≠ i → l.getD j true = false → (∀ e ∈ oj.after, Region.binds .any e = true → e.on ≠ i) → oi.apart ops oj = true) →
      i ∈ Region.ready .any ops l → TakesG P ops C oi v a → anyC P ops C Q f (l.setIfInBounds i true) (a.put oi.dst v) w → anyC P ops C Q (f + 1) l a w := by
  intro f
  induction f with
  | zero =>
    intro l a w _ hr hy H
    refine ⟨H.1, fun h => (by rw [h] at hr; cases hr), fun j hj => ?_⟩
    by_cases hji : j = i
    · subst hji; exact hy.op hi H.1 H
    · have := ready_mono hj hji
      rw [H.2.1] at this
      cases this
  | succ f ih =>
    intro l a w hfree hr hy H
    refine ⟨H.1, fun h => (by rw [h] at hr; cases hr), fun j hj => ?_⟩
    by_cases hji : j = i
    · subst hji; exact hy.op hi H.1 H
    · have h1 := H.2.2 j (ready_mono hj hji)
      obtain ⟨hjun, oj, hoj, hall⟩ := mem_ready.1 hj
      have hnot : ∀ e ∈ oj.after, Region.binds .any e = true → e.on ≠ i := fun e he hb heq => by
        have h1 := hall e he hb
        have h0 := (mem_ready.1 hr).1
        rw [heq] at h1
        rcases Nat.lt_or_ge i l.size with h' | h'
        · simp [h'] at h0 h1; rw [h0] at h1; cases h1
        · simp [Array.getElem?_eq_none h'] at h1
      have h2 := op_putC hoj (hfree j oj hoj hji hjun hnot) (fun cs b => hsel i oi cs b hi) (fun cs b => hsel j oj cs b hoj) hQ h1
      have hfree' : ∀ k ok, ops[k]? = some ok → k ≠ i → (l.setIfInBounds j true).getD k true = false →
          (∀ e ∈ ok.after, Region.binds .any e = true → e.on ≠ i) → oi.apart ops ok = true := fun k ok hk hki hun hno => by
        refine hfree k ok hk hki ?_ hno
        by_cases hjk : j = k
        · subst hjk; exact hjun
        · rw [getD_set_ne true hjk] at hun; exact hun
      refine wpOpIn_mono (fun a' w' h3 => ih (l.setIfInBounds j true) a' w' hfree' (ready_mono hr (Ne.symm hji)) (hy.pass h3.1) ?_) h2
      rw [Array.setIfInBounds_comm _ _ hji]
      exact h3.2
end
section
variable {P : Program} {w0 : World} {Q : Exit → Act → World → Prop} {n : Nat} {ds : List Deferred} {k : List It} {env env' : Env} {H H' Hc : Heap} {ops : Array Oper}
theorem WC_gyes (i : Nat) {op : Op} {ty : TypeId} {v : Value} {d j dj : Nat} {b : Bool} {pos : String} {aft : Array Edge} {fuel : Nat} {listed l' : Array Bool} (hi : ops[i]? = some ⟨some d, op, ty, pos, aft, some (j, b)⟩) (hs : Region.noSelect ops = true) (hf : Region.free .any ops listed i = true) (hr : (Region.ready .any ops listed).contains i = true)
    (hcall : NoCall op = true) (hl : listed.setIfInBounds i true = l') (hj : (ops[j]?).bind (·.dst) = some dj) (ht : look env dj = some (.bool b)) (hx : Ex P n env (Sat w0 Hc) op ty v) (hd : Nat.blt d n = true)
    (h : WC P w0 Q n ds k ops Hc fuel l' ((d, v) :: env) H) : WC P w0 Q n ds k ops Hc (fuel + 1) listed env H := fun a w ha hds hsat => by
  subst hl
  have hy := ha.yielded hj ht
  exact anyG_first hi (Region.noSelect_spec hs) (fun _ _ _ hq => hq.elim) fuel listed a w (Region.free_spec hi hf) (by simpa using hr)
    (.inl ⟨by simp [Region.wanted, hy], fun w hw => hx a w _ _ _ _ ha hw, fun w _ => about_nocall hcall w _⟩) (h _ w (ha.put (d := some d) hd) hds hsat)
end
section
variable {P : Program} {w0 : World} {Q : Exit → Act → World → Prop} {n : Nat} {ds : List Deferred} {k : List It} {env : Env} {H : Heap} {ops : Array Oper}
end
end Go.Sl
namespace Go.Sl
class TakeI (p : Nat × Blk) (H : Heap) (H1 : outParam Heap) : Prop where
  out : Take p H H1
instance (priority := 1000) TakeI.here {p : Nat × Blk} {H : Heap} : TakeI p (p :: H) H := ⟨.here H⟩
instance (priority := 500) TakeI.next {p q : Nat × Blk} {H H1 : Heap} [h : TakeI p H H1] : TakeI p (q :: H) (q :: H1) := ⟨.next h.out⟩
instance (priority := 500) TakeI.app {p : Nat × Blk} {S H H1 : Heap} [h : TakeI p H H1] : TakeI p (S ++ H) (S ++ H1) := ⟨.app h.out⟩
class TakeSI (S : Heap) (H : Heap) (H1 : outParam Heap) : Prop where
  out : TakeS S H H1
instance (priority := 1000) TakeSI.here {S H : Heap} : TakeSI S (S ++ H) H := ⟨.here H⟩
instance (priority := 500) TakeSI.next {q : Nat × Blk} {S H H1 : Heap} [h : TakeSI S H H1] : TakeSI S (q :: H) (q :: H1) := ⟨.next h.out⟩
instance (priority := 500) TakeSI.app {S T H H1 : Heap} [h : TakeSI S H H1] : TakeSI S (T ++ H) (T ++ H1) := ⟨.app h.out⟩
class HSubI (H H' : Heap) : Prop where
  out : HSub H H'
instance (priority := 1000) HSubI.refl {H : Heap} : HSubI H H := ⟨.refl H⟩
instance (priority := 900) HSubI.nil {H : Heap} : HSubI H [] := ⟨.nil H⟩
instance (priority := 800) HSubI.cons {p : Nat × Blk} {H H1 H' : Heap} [t : TakeI p H H1] [h : HSubI H1 H'] : HSubI H (p :: H') := ⟨.cons t.out h.out⟩
instance (priority := 800) HSubI.app {S H H1 H' : Heap} [t : TakeSI S H H1] [h : HSubI H1 H'] : HSubI H (S ++ H') := ⟨.app t.out h.out⟩
instance (priority := 100) HSubI.drop {p : Nat × Blk} {H H' : Heap} [h : HSubI H H'] : HSubI (p :: H) H' := ⟨.drop h.out⟩
instance (priority := 100) HSubI.dropS {S H H' : Heap} [h : HSubI H H'] : HSubI (S ++ H) H' := ⟨.dropS h.out⟩
theorem hsubI {H H' : Heap} [h : HSubI H H'] : HSub H H' := h.out
class MemI (p : Nat × Blk) (H : Heap) : Prop where
  out : p ∈ H
instance (priority := 1000) MemI.here {p : Nat × Blk} {H : Heap} : MemI p (p :: H) := ⟨List.mem_cons_self⟩
instance (priority := 500) MemI.next {p q : Nat × Blk} {H : Heap} [h : MemI p H] : MemI p (q :: H) := ⟨List.mem_cons_of_mem _ h.out⟩
instance (priority := 500) MemI.app {p : Nat × Blk} {S H : Heap} [h : MemI p H] : MemI p (S ++ H) := ⟨List.mem_append_right _ h.out⟩
end Go.Sl
namespace Go.Sl
open Go.RowKit
inductive FTr where
  | nil
  | node (k v : Nat) (l r : FTr)
def FTr.get : FTr → Nat → Option Nat
  | .nil, _ => none
  | .node k v l r, x => bif Nat.beq k x then some v else bif Nat.blt x k then l.get x else r.get x
def FTr.Ok (P : Program) : FTr → Prop
  | .nil => True
  | .node k v l r => (∃ s ag, Fld P (k / 64) (k % 64) v s ag ∧ s ≠ 0) ∧ FTr.Ok P l ∧ FTr.Ok P r
theorem FTr.Ok.at {P : Program} {x v : Nat} : ∀ {T : FTr}, T.Ok P → T.get x = some v → ∃ s ag, Fld P (x / 64) (x % 64) v s ag ∧ s ≠ 0
  | .nil, _, h => by cases h
  | .node k v' l r, ⟨h1, h2, h3⟩, h => by
    simp only [FTr.get] at h
    cases hk : Nat.beq k x with
    | true =>
      rw [hk] at h
      obtain rfl := Nat.eq_of_beq_eq_true hk
      cases h; exact h1
    | false =>
      rw [hk] at h
      cases hb : Nat.blt x k with
      | true => rw [hb] at h; exact h2.at h
      | false => rw [hb] at h; exact h3.at h
def pv (T : FTr) (env : Env) : Op → Option Value
  | .move x => opv env x
  | .assign x => opv env x
  | .extract x i => match opv env x with
    | some (.tuple vs) => vs[i]?
    | _ => none
  | .nilCheck x => match opv env x with
    | some (.pointer (some a)) => some (.pointer (some a))
    | some (.func (.func g) fa ca) => some (.func (.func g) fa ca)
    | _ => none
  | .pick c x y => match opv env c with
    | some (.bool true) => opv env x
    | some (.bool false) => opv env y
    | _ => none
  | .fieldAddr t x f => match opv env x with
    | some (.pointer (some ⟨b, i, none⟩)) => bif Nat.blt f 64 then (match T.get (64 * t + f) with
      | some off => some (.pointer (some ⟨b, i + off, none⟩))
      | none => none) else none
    | _ => none
  | .binOp op _ x y _ => match opv env x, opv env y with
    | some (.int q i), some (.int q' j) => if q = q' then (match op with
      | .eql => some (.bool (decide (i = j)))
      | .neq => some (.bool (decide (i ≠ j)))
      | .lss => some (.bool (decide (i < j)))
      | .leq => some (.bool (decide (i ≤ j)))
      | .gtr => some (.bool (decide (j < i)))
      | .geq => some (.bool (decide (j ≤ i)))
      | _ => none) else none
    | _, _ => none
  | .unOp .not _ x => match opv env x with
    | some (.bool b) => some (.bool (!b))
    | _ => none
  | _ => none
def st1 (T : FTr) (n : Nat) : List It → Env → Option (List It × Env)
  | .ops _ [] :: k, env => some (k, env)
  | .ops all (⟨some d, op, _, _, _, none⟩ :: rest) :: k, env => match pv T env op with
    | some v => bif Nat.blt d n then some (.ops all rest :: k, (d, v) :: env) else none
    | none => none
  | .ops all (⟨d, op, t, p, aft, some (j, b)⟩ :: rest) :: k, env => match (all.toList[j]?).bind (·.dst) with
    | some dj => match look env dj with
      | some (.bool b') => bif b' == b then some (.ops all (⟨d, op, t, p, aft, none⟩ :: rest) :: k, env) else bif dok n d then some (.ops all rest :: k, put d undef env) else none
      | _ => none
    | none => none
  | .code (.seq (.region _ ⟨l⟩ false) y) :: k, env => some (.ops l.toArray l :: .code y :: k, env)
  | .code (.seq x y) :: k, env => some (.code x :: .code y :: k, env)
  | .code (.region _ ⟨l⟩ false) :: k, env => some (.ops l.toArray l :: k, env)
  | .code .skip :: k, env => some (k, env)
  | .code (.block id c) :: k, env => some (.code c :: .blk id :: k, env)
  | .blk _ :: k, env => some (k, env)
  | .code (.cond c x y) :: k, env => match opv env c with
    | some (.bool true) => some (.code x :: k, env)
    | some (.bool false) => some (.code y :: k, env)
    | _ => none
  | .code (.exit id) :: k, env => match exitK id k with
    | some k' => some (k', env)
    | none => none
  | _, _ => none
def st (T : FTr) (n : Nat) : Nat → List It → Env → Option (List It × Env)
  | 0, k, env => some (k, env)
  | f + 1, k, env => match st1 T n k env with
    | some (k', env') => st T n f k' env'
    | none => none
section
variable {P : Program} {rd : Option Nat} {w0 : World} {Q : Exit → Act → World → Prop} {n : Nat} {ds : List Deferred} {k k' : List It} {env env' : Env} {H : Heap} {T : FTr}
end
section
variable {P : Program} {w0 : World} {Q : Exit → Act → World → Prop} {n : Nat} {ds : List Deferred} {k : List It} {env env' : Env} {H Hc : Heap} {T : FTr} {ops : Array Oper} {l l' : List Oper}
end
class FTI (P : Program) where
  T : FTr
  ok : T.Ok P
section
variable {P : Program} [i : FTI P] {rd : Option Nat} {w0 : World} {Q : Exit → Act → World → Prop} {n : Nat} {ds : List Deferred} {k k' : List It} {env env' : Env} {H Hc : Heap} {ops : Array Oper} {l l' : List Oper}
end
end Go.Sl
namespace Go.Sl
open Go.RowKit
section
variable {P : Program} {ops : Array Oper} {C C2 : World → Prop} {Q : Exit → Act → World → Prop} {s : Nat}
def anyS (P : Program) (ops : Array Oper) (C C2 : World → Prop) (Q : Exit → Act → World → Prop) (s : Nat) : Nat → Array Bool → Act → World → Prop
  | 0, l, a, w => C w ∧ Region.ready .any ops l = [] ∧ Q .normal a w
  | f + 1, l, a, w => C w ∧ (Region.ready .any ops l = [] → Q .normal a w) ∧ (∀ i ∈ Region.ready .any ops l, i ≠ s → wpOpIn (fen none) 0 P ops Q i (anyS P ops C C2 Q s f (l.setIfInBounds i true)) a w) ∧
      (s ∈ Region.ready .any ops l → wpOpIn (fen none) 0 P ops Q s (anyC P ops C2 Q f (l.setIfInBounds s true)) a w)
theorem anyS.here {f : Nat} {l : Array Bool} {a : Act} {w : World} (h : anyS P ops C C2 Q s f l a w) : C w := by
  cases f <;> exact h.1
theorem anyS.any : ∀ {f : Nat} {l : Array Bool} {a : Act} {w : World}, anyS P ops C C2 Q s f l a w → wpAnyIn (fen none) 0 P .any ops Q f l a w
  | 0, _, _, _, h => h.2
  | f + 1, l, _, _, h => ⟨h.2.1, fun i hi => by
    by_cases e : i = s
    · subst e; exact wpOpIn_mono (fun _ _ h => h.any) (h.2.2.2 hi)
    · exact wpOpIn_mono (fun _ _ h => h.any) (h.2.2.1 i hi e)⟩
theorem anyS_first {i : Nat} {oi : Oper} {v : Value} (hi : ops[i]? = some oi) (his : i ≠ s) (hsel : ∀ (j : Nat) (o : Oper) cs b, ops[j]? = some o → o.op ≠ .select cs b) (hQ : ∀ c a w, Q (.panic c) (a.put oi.dst v) w → Q (.panic c) a w) :
    ∀ (f : Nat) (l : Array Bool) (a : Act) (w : World),
      (∀ j oj, ops[j]? = some oj → j ≠ i → l.getD j true = false → (∀ e ∈ oj.after, Region.binds .any e = true → e.on ≠ i) → oi.apart ops oj = true) →
      i ∈ Region.ready .any ops l → TakesC P ops C oi v a → ((∃ os e, ops[s]? = some os ∧ e ∈ os.after ∧ Region.binds .any e = true ∧ e.on = i) ∨ TakesC P ops C2 oi v a) → anyS P ops C C2 Q s f (l.setIfInBounds i true) (a.put oi.dst v) w → anyS P ops C C2 Q s (f + 1) l a w := by
  intro f
  induction f with
  | zero =>
    intro l a w _ hr hy _ H
    refine ⟨H.1, fun h => (by rw [h] at hr; cases hr), fun j hj hjs => ?_, fun hj => ?_⟩
    · by_cases hji : j = i
      · subst hji; exact hy.op hi H.1 H
      · have := ready_mono hj hji
        rw [H.2.1] at this
        cases this
    · have := ready_mono hj (Ne.symm his)
      rw [H.2.1] at this
      cases this
  | succ f ih =>
    intro l a w hfree hr hy hc H
    have notOf : ∀ j oj, j ∈ Region.ready .any ops l → ops[j]? = some oj → ∀ e ∈ oj.after, Region.binds .any e = true → e.on ≠ i := fun j oj hj hoj e he hb heq => by
      obtain ⟨_, oj', hoj', hall⟩ := mem_ready.1 hj
      obtain rfl : oj = oj' := Option.some.inj (hoj.symm.trans hoj')
      have h1 := hall e he hb
      have h0 := (mem_ready.1 hr).1
      rw [heq] at h1
      rcases Nat.lt_or_ge i l.size with h' | h'
      · simp [h'] at h0 h1; rw [h0] at h1; cases h1
      · simp [Array.getElem?_eq_none h'] at h1
    have free' : ∀ j, ∀ k ok, ops[k]? = some ok → k ≠ i → (l.setIfInBounds j true).getD k true = false →
          (∀ e ∈ ok.after, Region.binds .any e = true → e.on ≠ i) → oi.apart ops ok = true := fun j k ok hk hki hun hno => by
      refine hfree k ok hk hki ?_ hno
      by_cases hjk : j = k
      · subst hjk
        rcases Nat.lt_or_ge j l.size with h' | h'
        · simp [h'] at hun
        · simp [Array.getElem?_eq_none h'] at hun
      · rw [getD_set_ne true hjk] at hun; exact hun
    refine ⟨H.1, fun h => (by rw [h] at hr; cases hr), fun j hj hjs => ?_, fun hj => ?_⟩
    · by_cases hji : j = i
      · subst hji; exact hy.op hi H.1 H
      · have h1 := H.2.2.1 j (ready_mono hj hji) hjs
        obtain ⟨hjun, oj, hoj, hall⟩ := mem_ready.1 hj
        have h2 := op_putC hoj (hfree j oj hoj hji hjun (notOf j oj hj hoj)) (fun cs b => hsel i oi cs b hi) (fun cs b => hsel j oj cs b hoj) hQ h1
        refine wpOpIn_mono (fun a' w' h3 => ih (l.setIfInBounds j true) a' w' (free' j) (ready_mono hr (Ne.symm hji)) (hy.pass h3.1) (hc.imp id (·.pass h3.1)) ?_) h2
        rw [Array.setIfInBounds_comm _ _ hji]
        exact h3.2
    · have hji : s ≠ i := Ne.symm his
      have h1 := H.2.2.2 (ready_mono hj hji)
      obtain ⟨hjun, oj, hoj, hall⟩ := mem_ready.1 hj
      rcases hc with ⟨os, e, hos, he, hb, heq⟩ | hc
      · exact absurd heq (notOf s os hj hos e he hb)
      · have h2 := op_putC hoj (hfree s oj hoj hji hjun (notOf s oj hj hoj)) (fun cs b => hsel i oi cs b hi) (fun cs b => hsel s oj cs b hoj) hQ h1
        refine wpOpIn_mono (fun a' w' h3 => anyC_first hi hsel hQ f (l.setIfInBounds s true) a' w' (free' s) (ready_mono hr (Ne.symm hji)) (hc.pass h3.1) ?_) h2
        rw [Array.setIfInBounds_comm _ _ hji]
        exact h3.2
end
section
variable {P : Program} {w0 : World} {Q : Exit → Act → World → Prop} {n : Nat} {ds : List Deferred} {k : List It} {env env' : Env} {H H' Hc : Heap} {ops : Array Oper} {s : Nat}
def WS (P : Program) (w0 : World) (Q : Exit → Act → World → Prop) (n : Nat) (ds : List Deferred) (k : List It) (ops : Array Oper) (Hc : Heap) (s fuel : Nat) (listed : Array Bool) (env : Env) (H : Heap) : Prop :=
  ∀ a w, Agree n env a → a.defers = ds → Sat w0 H w → anyS P ops (Sat w0 Hc) (Sat w0 []) (Q0 P Q k) s fuel listed a w
theorem W_anyS {id : Nat} {l : List Oper} (Hc : Heap) (s : Nat) (hm : P.follows .mixedOrders = true) (h : WS P w0 Q n ds k l.toArray Hc s l.length (Array.replicate l.length false) env H) : W P none w0 Q n ds (.code (.region id l.toArray true) :: k) env H := by
  intro a w ha hd hs
  show (Code.region id l.toArray true).wpIn (fen none) 0 P (Cont P none Q k) a w
  exact wpIn_mono (wpIn_region_any hm (by simpa using (h a _ ha hd hs.drew).any)) fun _ _ _ => Q0_of
def bindsOn (ops : Array Oper) (s i : Nat) : Bool :=
  match ops[s]? with
  | some os => os.after.any fun e => Region.binds .any e && Nat.beq e.on i
  | none => false
theorem bindsOn_spec {i : Nat} (h : bindsOn ops s i = true) : ∃ os e, ops[s]? = some os ∧ e ∈ os.after ∧ Region.binds .any e = true ∧ e.on = i := by
  unfold bindsOn at h
  cases ho : ops[s]? with
  | none => rw [ho] at h; cases h
  | some os =>
    rw [ho] at h
    obtain ⟨e, he, hb⟩ := Array.any_eq_true'.1 h
    rw [Bool.and_eq_true] at hb
    exact ⟨os, e, rfl, he, hb.1, Nat.eq_of_beq_eq_true hb.2⟩
theorem WS_take (i : Nat) {op : Op} {ty : TypeId} {v : Value} {d : Nat} {pos : String} {aft : Array Edge} {fuel : Nat} {listed l' : Array Bool} (hi : ops[i]? = some ⟨some d, op, ty, pos, aft, none⟩) (his : Nat.beq i s = false) (hs : Region.noSelect ops = true) (hf : Region.free .any ops listed i = true) (hr : (Region.ready .any ops listed).contains i = true)
    (hdep : bindsOn ops s i = true) (hcall : NoCall op = true) (hl : listed.setIfInBounds i true = l') (hx : Ex P n env (Sat w0 Hc) op ty v) (hd : Nat.blt d n = true)
    (h : WS P w0 Q n ds k ops Hc s fuel l' ((d, v) :: env) H) : WS P w0 Q n ds k ops Hc s (fuel + 1) listed env H := fun a w ha hds hsat => by
  subst hl
  exact anyS_first hi (fun e => by rw [e] at his; simp at his) (Region.noSelect_spec hs) (fun _ _ _ hq => hq.elim) fuel listed a w (Region.free_spec hi hf) (by simpa using hr)
    ⟨by simp [Region.wanted], fun w hw => hx a w _ _ _ _ ha hw, fun w _ => about_nocall hcall w _⟩ (.inl (bindsOn_spec hdep)) (h _ w (ha.put (d := some d) hd) hds hsat)
theorem WS_takeP (i : Nat) {op : Op} {ty : TypeId} {v : Value} {d : Nat} {pos : String} {aft : Array Edge} {fuel : Nat} {listed l' : Array Bool} (hi : ops[i]? = some ⟨some d, op, ty, pos, aft, none⟩) (his : Nat.beq i s = false) (hs : Region.noSelect ops = true) (hf : Region.free .any ops listed i = true) (hr : (Region.ready .any ops listed).contains i = true)
    (hcall : NoCall op = true) (hl : listed.setIfInBounds i true = l') (hx : Ex P n env (fun _ => True) op ty v) (hd : Nat.blt d n = true)
    (h : WS P w0 Q n ds k ops Hc s fuel l' ((d, v) :: env) H) : WS P w0 Q n ds k ops Hc s (fuel + 1) listed env H := fun a w ha hds hsat => by
  subst hl
  exact anyS_first hi (fun e => by rw [e] at his; simp at his) (Region.noSelect_spec hs) (fun _ _ _ hq => hq.elim) fuel listed a w (Region.free_spec hi hf) (by simpa using hr)
    ⟨by simp [Region.wanted], fun w hw => hx a w _ _ _ _ ha trivial, fun w _ => about_nocall hcall w _⟩ (.inr ⟨by simp [Region.wanted], fun w hw => hx a w _ _ _ _ ha trivial, fun w _ => about_nocall hcall w _⟩) (h _ w (ha.put (d := some d) hd) hds hsat)
theorem WS_one (i : Nat) {o : Oper} {fuel : Nat} {listed l' : Array Bool} (hh : HSub H Hc) (his : Nat.beq i s = false) (hr : Region.ready .any ops listed = [i]) (hi : ops[i]? = some o) (hl : listed.setIfInBounds i true = l')
    (h : W P none w0 (fun _ _ _ => False) n ds [.ops ops [o], .goal (fun a w => anyS P ops (Sat w0 Hc) (Sat w0 []) (Q0 P Q k) s fuel l' a w)] env H) : WS P w0 Q n ds k ops Hc s (fuel + 1) listed env H := fun a w ha hds hsat => by
  subst hl
  have hne : i ≠ s := fun e => by rw [e] at his; simp at his
  refine ⟨hsat.hsub hh, fun h0 => (by rw [hr] at h0; cases h0), fun j hj _ => ?_, fun hj => ?_⟩
  · rw [hr] at hj
    obtain rfl : j = i := by simpa using hj
    exact wc_op hi (h a w ha hds hsat)
  · rw [hr] at hj
    exact absurd (by simpa using hj : s = i).symm hne
theorem WS_last {o : Oper} {fuel : Nat} {listed l' : Array Bool} (hh : HSub H Hc) (hr : Region.ready .any ops listed = [s]) (hi : ops[s]? = some o) (hl : listed.setIfInBounds s true = l')
    (h : W P none w0 (fun _ _ _ => False) n ds [.ops ops [o], .goal (fun a w => anyC P ops (Sat w0 []) (Q0 P Q k) fuel l' a w)] env H) : WS P w0 Q n ds k ops Hc s (fuel + 1) listed env H := fun a w ha hds hsat => by
  subst hl
  refine ⟨hsat.hsub hh, fun h0 => (by rw [hr] at h0; cases h0), fun j hj hjs => ?_, fun hj => wc_op hi (h a w ha hds hsat)⟩
  rw [hr] at hj
  exact absurd (by simpa using hj) hjs
theorem WS_goal {fuel : Nat} {l' : Array Bool} {k' : List It} {Q' : Exit → Act → World → Prop} (h : WS P w0 Q n ds k ops Hc s fuel l' env H) : W P none w0 Q' n ds (.goal (fun a w => anyS P ops (Sat w0 Hc) (Sat w0 []) (Q0 P Q k) s fuel l' a w) :: k') env H :=
  W_goal fun a w ha hd hs => h a w ha hd hs
end
end Go.Sl
namespace Go.Sl.Rd
open Go.RowKit
def noDefer (ops : Array Oper) : Bool := ops.all fun o => match o.op with | .defer _ => false | _ => true
theorem noDefer_spec {ops : Array Oper} (h : noDefer ops = true) (j : Nat) (o : Oper) (hj : ops[j]? = some o) (c : Call) : o.op ≠ .defer c := fun e => by
  have := Array.all_eq_true'.1 h o (Array.mem_of_getElem? hj)
  rw [e] at this; cases this
def Q0 (rd : Option Nat) (P : Program) (Q : Exit → Act → World → Prop) (k : List It) : Exit → Act → World → Prop
  | .normal, a, w => Cont P rd Q k .normal a w
  | _, _, _ => False
section
variable {rd : Option Nat} {P : Program} {ops : Array Oper} {C : World → Prop} {Q : Exit → Act → World → Prop}
def anyC (rd : Option Nat) (P : Program) (ops : Array Oper) (C : World → Prop) (Q : Exit → Act → World → Prop) : Nat → Array Bool → Act → World → Prop
  | 0, l, a, w => C w ∧ Region.ready .any ops l = [] ∧ Q .normal a w
  | f + 1, l, a, w => C w ∧ (Region.ready .any ops l = [] → Q .normal a w) ∧ ∀ i ∈ Region.ready .any ops l, wpOpIn (fen rd) 0 P ops Q i (anyC rd P ops C Q f (l.setIfInBounds i true)) a w
theorem anyC.here {f : Nat} {l : Array Bool} {a : Act} {w : World} (h : anyC rd P ops C Q f l a w) : C w := by
  cases f <;> exact h.1
theorem anyC.any : ∀ {f : Nat} {l : Array Bool} {a : Act} {w : World}, anyC rd P ops C Q f l a w → wpAnyIn (fen rd) 0 P .any ops Q f l a w
  | 0, _, _, _, h => h.2
  | f + 1, _, _, _, h => ⟨h.2.1, fun i hi => wpOpIn_mono (fun _ _ h => h.any) (h.2.2 i hi)⟩
theorem takes_op {i : Nat} {o : Oper} {v : Value} {a : Act} {w : World} {K : Act → World → Prop} (hi : ops[i]? = some o) (hnd : ∀ c, o.op ≠ .defer c) (hy : TakesC P ops C o v a) (hw : C w) (h : K (a.put o.dst v) w) : wpOpIn (fen rd) 0 P ops Q i K a w := by
  unfold Go.wpOpIn
  simp only [hi, hy.wanted, if_true, Oper.wpIn, Oper.semAt_eq _ _ _ hnd, hy.run w hw, Oper.uponIn]
  exact ⟨fun f hf => (by rw [hy.about w hw] at hf; cases hf), h⟩
theorem op_putC {j : Nat} {oi oj : Oper} {v : Value} (hj : ops[j]? = some oj) (hnd : ∀ c, oj.op ≠ .defer c) (hap : oi.apart ops oj = true) (hsi : ∀ cs b, oi.op ≠ .select cs b) (hsj : ∀ cs b, oj.op ≠ .select cs b)
    (hQ : ∀ c a w, Q (.panic c) (a.put oi.dst v) w → Q (.panic c) a w) {K : Act → World → Prop} {a : Act} {w : World} (h : wpOpIn (fen rd) 0 P ops Q j K (a.put oi.dst v) w) :
    wpOpIn (fen rd) 0 P ops Q j (fun a' w' => PassC P ops oi oj a a' ∧ K (a'.put oi.dst v) w') a w := by
  obtain ⟨h1, h2, h3⟩ := Oper.apart_spec hap
  have keep : ∀ u, PassC P ops oi oj a (a.put oj.dst u) := fun u => ⟨execOp_put oi hsi a oj.dst u h3, wanted_put oi a oj.dst u h3, fun w => about_put oi w a oj.dst u h3⟩
  have keepD : ∀ d u, PassC P ops oi oj a (Act.put { a with defers := d :: a.defers } oj.dst u) := fun d u => by
    have h := (⟨execOp_put oi hsi { a with defers := d :: a.defers } oj.dst u h3, wanted_put oi { a with defers := d :: a.defers } oj.dst u h3, fun w => about_put oi w { a with defers := d :: a.defers } oj.dst u h3⟩ : PassC P ops oi oj { a with defers := d :: a.defers } _)
    exact ⟨h.run, h.wanted, h.about⟩
  unfold wpOpIn at *
  simp only [hj] at *
  rw [wanted_put oj a oi.dst v h1, about_put oj w a oi.dst v h1] at h
  split
  · rename_i hw
    simp only [hw, if_true] at h
    unfold Oper.wpIn at *
    rw [about_put oj w a oi.dst v h1] at h
    refine ⟨h.1, ?_⟩
    have h := h.2
    rw [Oper.semAt_eq _ _ _ hnd, execOp_put oj hsj a oi.dst v h1] at h
    rw [Oper.semAt_eq _ _ _ hnd]
    generalize (execOp a.eval oj).run P w = r at *
    cases r with
    | ok x w' =>
      cases x <;> simp only [Oper.uponIn] at h ⊢
      case value u => exact ⟨keep u, by rw [← Act.put_comm a v u h2]; exact h⟩
      case skip => exact ⟨keep _, by rw [← Act.put_comm a v undef h2]; exact h⟩
      case defer d =>
        refine ⟨keepD d _, ?_⟩
        rw [← Act.put_comm _ v undef h2, ← Act.put_defers]
        exact h
      case enter f args =>
        refine ⟨h.1, CallsIn.mono h.2 fun e w'' he => ?_⟩
        cases e with
        | returned u => exact ⟨keep u, by rw [← Act.put_comm a v u h2]; exact he⟩
        | panicked c => exact hQ _ _ _ he
        | outgrown => exact he
      case row row args => exact ⟨h.1, RowsIn.mono h.2 fun u w'' he => ⟨keep u, by rw [← Act.put_comm a v u h2]; exact he⟩⟩
      case round l f tmps assign body =>
        refine ⟨h.1, RoundIn.mono h.2 fun e w'' he => ?_⟩
        cases e with
        | returned u => exact ⟨keep u, by rw [← Act.put_comm a v u h2]; exact he⟩
        | panicked c => exact hQ _ _ _ he
        | outgrown => exact he
    | halt x w' =>
      cases x <;> simp only [Oper.uponIn] at h ⊢
      case panic u => exact hQ _ _ _ h
  · rename_i hw
    simp only [hw] at h
    exact ⟨h.1, keep _, by rw [← Act.put_comm a v undef h2]; exact h.2⟩
theorem anyC_first {i : Nat} {oi : Oper} {v : Value} (hi : ops[i]? = some oi) (hsel : ∀ (j : Nat) (o : Oper) cs b, ops[j]? = some o → o.op ≠ .select cs b) (hnd : ∀ (j : Nat) (o : Oper), ops[j]? = some o → ∀ c, o.op ≠ .defer c) (hQ : ∀ c a w, Q (.panic c) (a.put oi.dst v) w → Q (.panic c) a w) :
    ∀ (f : Nat) (l : Array Bool) (a : Act) (w : World),
      (∀ j oj, ops[j]? = some oj → j ≠ i → l.getD j true = false → (∀ e ∈ oj.after, Region.binds .any e = true → e.on ≠ i) → oi.apart ops oj = true) →
      i ∈ Region.ready .any ops l → TakesC P ops C oi v a → anyC rd P ops C Q f (l.setIfInBounds i true) (a.put oi.dst v) w → anyC rd P ops C Q (f + 1) l a w := by
  intro f
  induction f with
  | zero =>
    intro l a w _ hr hy H
    refine ⟨H.1, fun h => (by rw [h] at hr; cases hr), fun j hj => ?_⟩
    by_cases hji : j = i
    · subst hji; exact takes_op hi (hnd _ _ hi) hy H.1 H
    · have := ready_mono hj hji
      rw [H.2.1] at this
      cases this
  | succ f ih =>
    intro l a w hfree hr hy H
    refine ⟨H.1, fun h => (by rw [h] at hr; cases hr), fun j hj => ?_⟩
    by_cases hji : j = i
    · subst hji; exact takes_op hi (hnd _ _ hi) hy H.1 H
    · have h1 := H.2.2 j (ready_mono hj hji)
      obtain ⟨hjun, oj, hoj, hall⟩ := mem_ready.1 hj
      have hnot : ∀ e ∈ oj.after, Region.binds .any e = true → e.on ≠ i := fun e he hb heq => by
        have h1 := hall e he hb
        have h0 := (mem_ready.1 hr).1
        rw [heq] at h1
        rcases Nat.lt_or_ge i l.size with h' | h'
        · simp [h'] at h0 h1; rw [h0] at h1; cases h1
        · simp [Array.getElem?_eq_none h'] at h1
      have h2 := op_putC hoj (hnd _ _ hoj) (hfree j oj hoj hji hjun hnot) (fun cs b => hsel i oi cs b hi) (fun cs b => hsel j oj cs b hoj) hQ h1
      have hfree' : ∀ k ok, ops[k]? = some ok → k ≠ i → (l.setIfInBounds j true).getD k true = false →
          (∀ e ∈ ok.after, Region.binds .any e = true → e.on ≠ i) → oi.apart ops ok = true := fun k ok hk hki hun hno => by
        refine hfree k ok hk hki ?_ hno
        by_cases hjk : j = k
        · subst hjk; exact hjun
        · rw [getD_set_ne true hjk] at hun; exact hun
      refine wpOpIn_mono (fun a' w' h3 => ih (l.setIfInBounds j true) a' w' hfree' (ready_mono hr (Ne.symm hji)) (hy.pass h3.1) ?_) h2
      rw [Array.setIfInBounds_comm _ _ hji]
      exact h3.2
end
section
variable {rd : Option Nat} {P : Program} {w0 : World} {Q : Exit → Act → World → Prop} {n : Nat} {ds : List Deferred} {k : List It} {env env' : Env} {H H' Hc : Heap} {ops : Array Oper}
def WC (rd : Option Nat) (P : Program) (w0 : World) (Q : Exit → Act → World → Prop) (n : Nat) (ds : List Deferred) (k : List It) (ops : Array Oper) (Hc : Heap) (fuel : Nat) (listed : Array Bool) (env : Env) (H : Heap) : Prop :=
  ∀ a w, Agree n env a → a.defers = ds → Sat w0 H w → anyC rd P ops (Sat w0 Hc) (Q0 rd P Q k) fuel listed a w
theorem WC_take (i : Nat) {op : Op} {ty : TypeId} {v : Value} {d : Nat} {pos : String} {aft : Array Edge} {fuel : Nat} {listed l' : Array Bool} (hi : ops[i]? = some ⟨some d, op, ty, pos, aft, none⟩) (hs : Region.noSelect ops = true) (hnd : noDefer ops = true) (hf : Region.free .any ops listed i = true) (hr : (Region.ready .any ops listed).contains i = true)
    (hcall : NoCall op = true) (hl : listed.setIfInBounds i true = l') (hx : Ex P n env (Sat w0 Hc) op ty v) (hd : Nat.blt d n = true)
    (h : WC rd P w0 Q n ds k ops Hc fuel l' ((d, v) :: env) H) : WC rd P w0 Q n ds k ops Hc (fuel + 1) listed env H := fun a w ha hds hsat => by
  subst hl
  exact anyC_first hi (Region.noSelect_spec hs) (noDefer_spec hnd) (fun _ _ _ hq => hq.elim) fuel listed a w (Region.free_spec hi hf) (by simpa using hr)
    ⟨by simp [Region.wanted], fun w hw => hx a w _ _ _ _ ha hw, fun w _ => about_nocall hcall w _⟩ (h _ w (ha.put (d := some d) hd) hds hsat)
end
section
variable {rd : Option Nat} {P : Program} {ops : Array Oper} {C : World → Prop} {Q : Exit → Act → World → Prop}
theorem takesG_op {i : Nat} {o : Oper} {v : Value} {a : Act} {w : World} {K : Act → World → Prop} (hi : ops[i]? = some o) (hnd : ∀ c, o.op ≠ .defer c) (hy : TakesG P ops C o v a) (hw : C w) (h : K (a.put o.dst v) w) : wpOpIn (fen rd) 0 P ops Q i K a w := by
  rcases hy with hy | ⟨hy, rfl⟩
  · exact takes_op hi hnd hy hw h
  · unfold Go.wpOpIn
    simp only [hi, hy, Bool.false_eq_true, if_false]
    exact ⟨fun _ _ => trivial, h⟩
theorem anyG_first {i : Nat} {oi : Oper} {v : Value} (hi : ops[i]? = some oi) (hsel : ∀ (j : Nat) (o : Oper) cs b, ops[j]? = some o → o.op ≠ .select cs b) (hnd : ∀ (j : Nat) (o : Oper), ops[j]? = some o → ∀ c, o.op ≠ .defer c) (hQ : ∀ c a w, Q (.panic c) (a.put oi.dst v) w → Q (.panic c) a w) :
    ∀ (f : Nat) (l : Array Bool) (a : Act) (w : World),
      (∀ j oj, ops[j]? = some oj → j ≠ i → l.getD j true = false → (∀ e ∈ oj.after, Region.binds .any e = true → e.on ≠ i) → oi.apart ops oj = true) →
      i ∈ Region.ready .any ops l → TakesG P ops C oi v a → anyC rd P ops C Q f (l.setIfInBounds i true) (a.put oi.dst v) w → anyC rd P ops C Q (f + 1) l a w := by
  intro f
  induction f with
  | zero =>
    intro l a w _ hr hy H
    refine ⟨H.1, fun h => (by rw [h] at hr; cases hr), fun j hj => ?_⟩
    by_cases hji : j = i
    · subst hji; exact takesG_op hi (hnd _ _ hi) hy H.1 H
    · have := ready_mono hj hji
      rw [H.2.1] at this
      cases this
  | succ f ih =>
    intro l a w hfree hr hy H
    refine ⟨H.1, fun h => (by rw [h] at hr; cases hr), fun j hj => ?_⟩
    by_cases hji : j = i
    · subst hji; exact takesG_op hi (hnd _ _ hi) hy H.1 H
    · have h1 := H.2.2 j (ready_mono hj hji)
      obtain ⟨hjun, oj, hoj, hall⟩ := mem_ready.1 hj
      have hnot : ∀ e ∈ oj.after, Region.binds .any e = true → e.on ≠ i := fun e he hb heq => by
        have h1 := hall e he hb
        have h0 := (mem_ready.1 hr).1
        rw [heq] at h1
        rcases Nat.lt_or_ge i l.size with h' | h'
        · simp [h'] at h0 h1; rw [h0] at h1; cases h1
        · simp [Array.getElem?_eq_none h'] at h1
      have h2 := op_putC hoj (hnd _ _ hoj) (hfree j oj hoj hji hjun hnot) (fun cs b => hsel i oi cs b hi) (fun cs b => hsel j oj cs b hoj) hQ h1
      have hfree' : ∀ k ok, ops[k]? = some ok → k ≠ i → (l.setIfInBounds j true).getD k true = false →
          (∀ e ∈ ok.after, Region.binds .any e = true → e.on ≠ i) → oi.apart ops ok = true := fun k ok hk hki hun hno => by
        refine hfree k ok hk hki ?_ hno
        by_cases hjk : j = k
        · subst hjk; exact hjun
        · rw [getD_set_ne true hjk] at hun; exact hun
      refine wpOpIn_mono (fun a' w' h3 => ih (l.setIfInBounds j true) a' w' hfree' (ready_mono hr (Ne.symm hji)) (hy.pass h3.1) ?_) h2
      rw [Array.setIfInBounds_comm _ _ hji]
      exact h3.2
end
section
variable {rd : Option Nat} {P : Program} {w0 : World} {Q : Exit → Act → World → Prop} {n : Nat} {ds : List Deferred} {k : List It} {env env' : Env} {H H' Hc : Heap} {ops : Array Oper}
theorem WC_gyes (i : Nat) {op : Op} {ty : TypeId} {v : Value} {d j dj : Nat} {b : Bool} {pos : String} {aft : Array Edge} {fuel : Nat} {listed l' : Array Bool} (hi : ops[i]? = some ⟨some d, op, ty, pos, aft, some (j, b)⟩) (hs : Region.noSelect ops = true) (hnd : noDefer ops = true) (hf : Region.free .any ops listed i = true) (hr : (Region.ready .any ops listed).contains i = true)
    (hcall : NoCall op = true) (hl : listed.setIfInBounds i true = l') (hj : (ops[j]?).bind (·.dst) = some dj) (ht : look env dj = some (.bool b)) (hx : Ex P n env (Sat w0 Hc) op ty v) (hd : Nat.blt d n = true)
    (h : WC rd P w0 Q n ds k ops Hc fuel l' ((d, v) :: env) H) : WC rd P w0 Q n ds k ops Hc (fuel + 1) listed env H := fun a w ha hds hsat => by
  subst hl
  have hy := ha.yielded hj ht
  exact anyG_first hi (Region.noSelect_spec hs) (noDefer_spec hnd) (fun _ _ _ hq => hq.elim) fuel listed a w (Region.free_spec hi hf) (by simpa using hr)
    (.inl ⟨by simp [Region.wanted, hy], fun w hw => hx a w _ _ _ _ ha hw, fun w _ => about_nocall hcall w _⟩) (h _ w (ha.put (d := some d) hd) hds hsat)
end
section
variable {rd : Option Nat} {P : Program} {ops : Array Oper} {C C2 : World → Prop} {Q : Exit → Act → World → Prop} {s : Nat}
def anyS (rd : Option Nat) (P : Program) (ops : Array Oper) (C C2 : World → Prop) (Q : Exit → Act → World → Prop) (s : Nat) : Nat → Array Bool → Act → World → Prop
  | 0, l, a, w => C w ∧ Region.ready .any ops l = [] ∧ Q .normal a w
  | f + 1, l, a, w => C w ∧ (Region.ready .any ops l = [] → Q .normal a w) ∧ (∀ i ∈ Region.ready .any ops l, i ≠ s → wpOpIn (fen rd) 0 P ops Q i (anyS rd P ops C C2 Q s f (l.setIfInBounds i true)) a w) ∧
      (s ∈ Region.ready .any ops l → wpOpIn (fen rd) 0 P ops Q s (anyC rd P ops C2 Q f (l.setIfInBounds s true)) a w)
theorem anyS.here {f : Nat} {l : Array Bool} {a : Act} {w : World} (h : anyS rd P ops C C2 Q s f l a w) : C w := by
  cases f <;> exact h.1
theorem anyS.any : ∀ {f : Nat} {l : Array Bool} {a : Act} {w : World}, anyS rd P ops C C2 Q s f l a w → wpAnyIn (fen rd) 0 P .any ops Q f l a w
  | 0, _, _, _, h => h.2
  | f + 1, l, _, _, h => ⟨h.2.1, fun i hi => by
    by_cases e : i = s
    · subst e; exact wpOpIn_mono (fun _ _ h => h.any) (h.2.2.2 hi)
    · exact wpOpIn_mono (fun _ _ h => h.any) (h.2.2.1 i hi e)⟩
end
section
variable {rd : Option Nat} {P : Program} {w0 : World} {Q : Exit → Act → World → Prop} {n : Nat} {ds : List Deferred} {k : List It} {env env' : Env} {H H' Hc : Heap} {ops : Array Oper} {s : Nat}
def WS (rd : Option Nat) (P : Program) (w0 : World) (Q : Exit → Act → World → Prop) (n : Nat) (ds : List Deferred) (k : List It) (ops : Array Oper) (Hc : Heap) (s fuel : Nat) (listed : Array Bool) (env : Env) (H : Heap) : Prop :=
  ∀ a w, Agree n env a → a.defers = ds → Sat w0 H w → anyS rd P ops (Sat w0 Hc) (Sat w0 []) (Q0 rd P Q k) s fuel listed a w
end
end Go.Sl.Rd
namespace Go.Sl
open Go.RowKit
open Go.ChangeMaps (setBlock)
structure KeyKind (P : Program) (K : TypeId) {α : Type} [DecidableEq α] (kf : α → Value) : Prop where
  check : ∀ (b : Bool) (a : α) (w : World), (Instr.checkKey b 10000 K (kf a)).run P w = .ok () w
  same : ∃ d, P.underlying K = some d ∧ ∀ a a', Instr.sameNow d (kf a) (kf a') = some (decide (a = a'))
  stays : ∀ (a : α) (w : World), (Instr.keyThatStays (kf a) (kf a)).run P w = .ok (kf a) w
theorem intKeys {P : Program} {K : TypeId} {q : IntKind} (h : P.underlying K = some (.int q)) : KeyKind P K (Value.int q) where
  check b a w := MapKept.run_checkKey (d := .int q) h (show MapKept.IsKey (.int q) (.int q a) from rfl) b 9999
  same := ⟨_, h, fun a a' => by simp [Instr.sameNow, Bool.beq_eq_decide_eq]⟩
  stays a w := by simp [Instr.keyThatStays, Instr.sameBits]
section
variable {α : Type} [DecidableEq α]
abbrev Ents (α : Type) := List (α × Value × Nat)
def entO (kf : α → Value) (p : α × Value × Nat) : MapEntry := ⟨kf p.1, p.2.1, p.2.2⟩
def mapO (kf : α → Value) (l : Ents α) (c : Nat) : Obj := .map (l.map (entO kf)).toArray c
structure MapOk (l : Ents α) (c : Nat) : Prop where
  keys : (l.map (·.1)).Nodup
  born : (l.map (·.2.2)).Nodup
  lt : ∀ p ∈ l, p.2.2 < c
def mHas (l : Ents α) (a : α) : Bool := l.any (fun p => decide (a = p.1))
def mPut (l : Ents α) (c : Nat) (a : α) (v : Value) : Ents α := if mHas l a then l.map (fun p => if a = p.1 then (p.1, v, p.2.2) else p) else l ++ [(a, v, c)]
def mClk (l : Ents α) (c : Nat) (a : α) : Nat := if mHas l a then c else c + 1
theorem MapOk.nil (c : Nat) : MapOk ([] : Ents α) c := ⟨List.nodup_nil, List.nodup_nil, fun _ h => by cases h⟩
theorem mHas_iff {l : Ents α} {a : α} : mHas l a = true ↔ a ∈ l.map (·.1) := by
  unfold mHas
  rw [List.any_eq_true, List.mem_map]
  exact ⟨fun ⟨p, hp, h⟩ => ⟨p, hp, (of_decide_eq_true h).symm⟩, fun ⟨p, hp, h⟩ => ⟨p, hp, decide_eq_true h.symm⟩⟩
theorem MapOk.put {l : Ents α} {c : Nat} (h : MapOk l c) (a : α) (v : Value) : MapOk (mPut l c a v) (mClk l c a) := by
  unfold mPut mClk
  cases hh : mHas l a with
  | true =>
    simp only [if_true]
    have e1 : (l.map (fun p => if a = p.1 then (p.1, v, p.2.2) else p)).map (·.1) = l.map (·.1) := by
      rw [List.map_map]; apply List.map_congr_left; intro p _; simp only [Function.comp]; split <;> rfl
    have e2 : (l.map (fun p => if a = p.1 then (p.1, v, p.2.2) else p)).map (·.2.2) = l.map (·.2.2) := by
      rw [List.map_map]; apply List.map_congr_left; intro p _; simp only [Function.comp]; split <;> rfl
    refine ⟨by rw [e1]; exact h.keys, by rw [e2]; exact h.born, fun p hp => ?_⟩
    obtain ⟨q, hq, rfl⟩ := List.mem_map.1 hp
    have := h.lt q hq
    split <;> exact this
  | false =>
    simp only [Bool.false_eq_true, if_false]
    have hn : a ∉ l.map (·.1) := fun hm => by rw [mHas_iff.2 hm] at hh; cases hh
    refine ⟨?_, ?_, fun p hp => ?_⟩
    · rw [List.map_append]
      refine List.nodup_append.2 ⟨h.keys, by simp, fun x hx y hy => ?_⟩
      have hy' : y = a := by simpa using hy
      subst hy'
      exact fun e => hn (e ▸ hx)
    · rw [List.map_append]
      refine List.nodup_append.2 ⟨h.born, by simp, fun x hx y hy => ?_⟩
      have hy' : y = c := by simpa using hy
      subst hy'
      obtain ⟨p, hp, rfl⟩ := List.mem_map.1 hx
      have := h.lt p hp
      exact fun e => by omega
    · rcases List.mem_append.1 hp with hp | hp
      · have := h.lt p hp; omega
      · obtain rfl : p = (a, v, c) := by simpa using hp
        exact Nat.lt_succ_self c
end
section
variable {P : Program} {rd : Option Nat} {w0 : World} {Q : Exit → Act → World → Prop} {n : Nat} {ds : List Deferred} {k : List It} {env env' : Env} {H H' : Heap} {all : Array Oper} {rest : List Oper}
variable {d : Nat} {x y z c : Operand} {t u ty K E : TypeId} {pos : String} {aft : Array Edge} {v : Value} {s by_ : Nat} {tz : Value}
variable {α : Type} [DecidableEq α] {kf : α → Value} {l : Ents α} {cl b : Nat} {a : α}
theorem setBlock_below {w0 w : World} {r : Nat} {o : Obj} (h : w0.heap.size ≤ r) : Below w0.heap.size w (setBlock w r o) :=
  ⟨rfl, rfl, rfl, by simp [setBlock], fun k hk => by simp only [setBlock]; rw [Array.getElem?_setIfInBounds_ne (by omega)]⟩
theorem Sat.setO {w : World} {r : Nat} {o o' : Obj} (hs : Sat w0 H w) (hu : Upd r (.obj o) (.obj o') H H') : Sat w0 H' (setBlock w r o') := by
  obtain ⟨hb, hr⟩ := hs.own _ hu.mem
  have hr' : w.heap[r]? = some o := hr
  exact hs.upd hu (setBlock_below hb) (fun j hj _ => by simp only [setBlock]; rw [Array.getElem?_setIfInBounds_ne (Ne.symm hj)]) (by
    show (setBlock w r o').heap[r]? = some o'
    have hlt : r < w.heap.size := (Array.getElem?_eq_some_iff.1 hr').1
    simp [setBlock, hlt])
theorem W_makeMap (hd : Nat.blt d n = true) (h : ∀ b : Nat, W P rd w0 Q n ds (.ops all rest :: k) ((d, .map (some b)) :: env) ((b, .obj (mapO kf [] 0)) :: H)) :
    W P rd w0 Q n ds (.ops all (⟨some d, .makeMap t none, ty, pos, aft, none⟩ :: rest) :: k) env H :=
  W_gen rfl nofun hd fun a w ha hs => ⟨.map (some w.heap.size), (w.heap.size, .obj (mapO kf [] 0)) :: H, w.alloc (.map #[] 0), .inl (by simp [execOp, run_makeMap, Result.andThen]), hs.alloc _ (At.alloc_obj w _), h w.heap.size⟩
def iterO (b since : Nat) (sl : List Nat) (c0 : Nat) : Obj := .mapIter (some b) since sl.toArray c0
theorem W_range (hx : opv env x = some (.map (some b))) (ht : Ty P t (.map K E) s tz by_) (hm : (b, Blk.obj (mapO kf l cl)) ∈ H) (hd : Nat.blt d n = true)
    (h : ∀ r : Nat, W P rd w0 Q n ds (.ops all rest :: k) ((d, .pointer (some ⟨r, 0, none⟩)) :: env) ((r, .obj (iterO b cl [] cl)) :: H)) :
    W P rd w0 Q n ds (.ops all (⟨some d, .range t x, ty, pos, aft, none⟩ :: rest) :: k) env H :=
  W_gen rfl nofun hd fun a' w ha hs => by
    have hb : w.heap[b]? = some (.map (l.map (entO kf)).toArray cl) := (hs.own _ hm).2
    refine ⟨.pointer (some ⟨w.heap.size, 0, none⟩), (w.heap.size, .obj (iterO b cl [] cl)) :: H, w.alloc (.mapIter (some b) cl #[] cl), .inl ?_, hs.alloc _ (At.alloc_obj w _), h w.heap.size⟩
    simp [execOp, ha.opv hx, run_range_map w t K E b _ cl ht.und hb, Result.andThen]
theorem W_next {r since c0 : Nat} {sl : List Nat} {HN : (α × Value × Nat) → Heap} (hx : opv env x = some (.pointer (some ⟨r, 0, none⟩))) (hm : (b, Blk.obj (mapO kf l cl)) ∈ H) (hr : (r, Blk.obj (iterO b since sl c0)) ∈ H) (hold : ∀ p ∈ l, p.2.2 < since) (hsc : since ≤ c0)
    (hu : ∀ p, Upd r (.obj (iterO b since sl c0)) (.obj (iterO b since (sl ++ [p.2.2]) cl)) H (HN p)) (hd : Nat.blt d n = true)
    (h0 : (∀ p ∈ l, p.2.2 ∈ sl) → W P rd w0 Q n ds (.ops all rest :: k) ((d, .tuple #[.bool false]) :: env) H)
    (h1 : ∀ p ∈ l, p.2.2 ∉ sl → W P rd w0 Q n ds (.ops all rest :: k) ((d, .tuple #[.bool true, kf p.1, p.2.1]) :: env) (HN p)) :
    W P rd w0 Q n ds (.ops all (⟨some d, .next x false, ty, pos, aft, none⟩ :: rest) :: k) env H :=
  W_gen rfl nofun hd fun a' w ha hs => by
    have hb : w.heap[b]? = some (.map (l.map (entO kf)).toArray cl) := (hs.own _ hm).2
    have hri : w.heap[r]? = some (.mapIter (some b) since sl.toArray c0) := (hs.own _ hr).2
    have hold' : ∀ e ∈ (l.map (entO kf)).toArray.toList, e.born < since := fun e he => by
      obtain ⟨p, hp, rfl⟩ : ∃ p, p ∈ l ∧ entO kf p = e := List.mem_map.1 he
      exact hold p hp
    rcases run_next_at (P := P) w ty r b since c0 sl.toArray _ cl hri hb hold' hsc with ⟨hz, hrun⟩ | ⟨e, he, w1, hw1, hrun⟩
    · refine ⟨.tuple #[.bool false], H, w, .inl ?_, hs, h0 fun p hp => ?_⟩
      · simp [execOp, ha.opv hx, hrun, Result.andThen]
      · have hnil : leftOf (l.map (entO kf)).toArray sl.toArray = #[] := Array.eq_empty_of_size_eq_zero hz
        unfold leftOf at hnil
        rw [Array.filter_eq_empty_iff] at hnil
        have := hnil (entO kf p) (by simpa using List.mem_map.2 ⟨p, hp, rfl⟩)
        simpa [entO] using this
    · obtain ⟨hmem, hnc⟩ := mem_left he
      obtain ⟨p, hp, rfl⟩ : ∃ p, p ∈ l ∧ entO kf p = e := List.mem_map.1 hmem
      refine ⟨.tuple #[.bool true, kf p.1, p.2.1], HN p, setBlock w1 r (.mapIter (some b) since (sl.toArray.push (entO kf p).born) cl), .inl ?_, ?_, h1 p hp (by simpa [entO] using hnc)⟩
      · have : (Instr.next (.pointer (some ⟨r, 0, none⟩)) false ty).run P w = .ok (.tuple #[.bool true, kf p.1, p.2.1]) (setBlock w1 r (.mapIter (some b) since (sl.toArray.push (entO kf p).born) cl)) := hrun
        simp [execOp, ha.opv hx, this, Result.andThen]
      · have hs1 : Sat w0 H w1 := by
          rcases hw1 with rfl | rfl
          · exact hs
          · exact hs.drew
        have e2 : (.mapIter (some b) since (sl.toArray.push (entO kf p).born) cl : Obj) = iterO b since (sl ++ [p.2.2]) cl := by simp [iterO, entO]
        rw [e2]
        exact hs1.setO (hu p)
theorem X_entry {r since : Nat} {sl : List Nat} {p : α × Value × Nat} (hx : opv env x = some (.pointer (some ⟨r, 0, none⟩))) (hm : (b, Blk.obj (mapO kf l cl)) ∈ H) (hr : (r, Blk.obj (iterO b since (sl ++ [p.2.2]) cl)) ∈ H) (hp : p ∈ l) (hok : MapOk l cl) :
    Ex P n env (Sat w0 H) (.entry x) ty (.tuple #[kf p.1, p.2.1]) := fun a' w d pos aft g ha hs => by
  have hb : w.heap[b]? = some (.map (l.map (entO kf)).toArray cl) := (hs.own _ hm).2
  have hri : w.heap[r]? = some (.mapIter (some b) since (sl.toArray.push (entO kf p).born) cl) := by
    have : w.heap[r]? = some (.mapIter (some b) since (sl ++ [p.2.2]).toArray cl) := (hs.own _ hr).2
    rw [this]; simp [entO]
  have := run_entry_at (P := P) w r b since sl.toArray _ cl (entO kf p) hri hb (List.mem_map.2 ⟨p, hp, rfl⟩) (by
    show (((l.map (entO kf)).map (·.born))).Nodup
    rw [List.map_map]
    exact hok.born)
  simp [execOp, ha.opv hx, this, Result.andThen, entO]
theorem W_entry {r since : Nat} {sl : List Nat} {p : α × Value × Nat} (hx : opv env x = some (.pointer (some ⟨r, 0, none⟩))) (hm : (b, Blk.obj (mapO kf l cl)) ∈ H) (hr : (r, Blk.obj (iterO b since (sl ++ [p.2.2]) cl)) ∈ H) (hp : p ∈ l) (hok : MapOk l cl) (hd : Nat.blt d n = true)
    (h : W P rd w0 Q n ds (.ops all rest :: k) ((d, .tuple #[kf p.1, p.2.1]) :: env) H) : W P rd w0 Q n ds (.ops all (⟨some d, .entry x, ty, pos, aft, none⟩ :: rest) :: k) env H :=
  W_pure rfl nofun hd (fun a' w ha hs => X_entry hx hm hr hp hok a' w (some d) pos aft none ha hs) h
theorem nat_sub_len : ∀ {a b : List Nat}, a.Nodup → (∀ x ∈ a, x ∈ b) → a.length ≤ b.length
  | [], _, _, _ => Nat.zero_le _
  | x :: a, b, hn, h => by
    have hn' := List.nodup_cons.1 hn
    have hx := h x List.mem_cons_self
    have := nat_sub_len (a := a) (b := b.erase x) hn'.2 (fun y hy => (List.mem_erase_of_ne (fun e : y = x => hn'.1 (e ▸ hy))).2 (h y (List.mem_cons_of_mem _ hy)))
    rw [List.length_erase_of_mem hx] at this
    have : 0 < b.length := List.length_pos_of_mem hx
    simp only [List.length_cons]; omega
theorem nodup_of_stamps {vs : Ents α} (hn : (vs.map (·.2.2)).Nodup) : vs.Nodup := List.Pairwise.of_map _ (fun a b h e => h (congrArg (·.2.2) e)) hn
theorem stamp_inj {l : Ents α} (h : (l.map (·.2.2)).Nodup) {p q : α × Value × Nat} (hp : p ∈ l) (hq : q ∈ l) (e : p.2.2 = q.2.2) : p = q := by
  obtain ⟨i, hi, rfl⟩ := List.getElem_of_mem hp
  obtain ⟨j, hj, rfl⟩ := List.getElem_of_mem hq
  have hpw := List.pairwise_iff_getElem.1 h
  rcases Nat.lt_trichotomy i j with hij | rfl | hij
  · exact absurd (by rw [List.getElem_map, List.getElem_map]; exact e) (hpw i j (by simpa using hi) (by simpa using hj) hij)
  · rfl
  · exact absurd (by rw [List.getElem_map, List.getElem_map]; exact e.symm) (hpw j i (by simpa using hj) (by simpa using hi) hij)
theorem visit_perm {vs : Ents α} (hok : MapOk l cl) (hn : (vs.map (·.2.2)).Nodup) (hin : ∀ p ∈ vs, p ∈ l) (hall : ∀ p ∈ l, p.2.2 ∈ vs.map (·.2.2)) : vs.Perm l := by
  refine (List.perm_ext_iff_of_nodup (nodup_of_stamps hn) (nodup_of_stamps hok.born)).2 fun p => ⟨hin p, fun hp => ?_⟩
  obtain ⟨q, hq, e⟩ := List.mem_map.1 (hall p hp)
  rw [← stamp_inj hok.born (hin q hq) hp e]; exact hq
theorem visit_lt {vs : Ents α} {p : α × Value × Nat} (hn : (vs.map (·.2.2)).Nodup) (hin : ∀ p ∈ vs, p ∈ l) (hp : p ∈ l) (hnp : p.2.2 ∉ vs.map (·.2.2)) : vs.length < l.length := by
  have := nat_sub_len (a := p.2.2 :: vs.map (·.2.2)) (b := l.map (·.2.2)) (List.nodup_cons.2 ⟨hnp, hn⟩) (fun x hx => by
    rcases List.mem_cons.1 hx with rfl | hx
    · exact List.mem_map.2 ⟨p, hp, rfl⟩
    · obtain ⟨q, hq, rfl⟩ := List.mem_map.1 hx
      exact List.mem_map.2 ⟨q, hin q hq, rfl⟩)
  simp only [List.length_cons, List.length_map] at this
  omega
end
end Go.Sl
namespace Go.Sl.Ev
open Go.RowKit
inductive AV where
  | vl (x : Value)
  | pt (b i : Nat)
  | sl (b o len cap : Nat)
  /-- of a block whose capacity is not known: 'lo' elements are cut off in front -/
  | sz (b lo o len : Nat)
  /-- an empty slice, not nil, of a place that is not known -/
  | em
  | fn (g : FuncId) (fa ca : List AV)
  | yi (l : Nat)
  | mh (b : Nat)
  | tu (l : List AV)
  | ag (l : List AV)
  deriving Inhabited
inductive Tr (α : Type) where
  | u (x : α)
  | n (l r : Tr α)
noncomputable def Tr.get {α : Type} (t : Tr α) : Nat → α := Tr.rec (motive := fun _ => Nat → α) (fun x _ => x) (fun _ _ gl gr i => bif Nat.beq (i % 2) 0 then gl (i / 2) else gr (i / 2)) t
theorem Tr.get_u {α : Type} (x : α) (i : Nat) : (Tr.u x).get i = x := rfl
theorem Tr.get_n {α : Type} (l r : Tr α) (i : Nat) : (Tr.n l r).get i = bif Nat.beq (i % 2) 0 then l.get (i / 2) else r.get (i / 2) := rfl
noncomputable def Tr.mkl {α : Type} (t r : Tr α) : Tr α := match t with
  | .u x => .n (.u x) r
  | .n a b => .n (.n a b) r
noncomputable def Tr.mkr {α : Type} (l t : Tr α) : Tr α := match t with
  | .u x => .n l (.u x)
  | .n a b => .n l (.n a b)
theorem Tr.mkl_eq {α : Type} (t r : Tr α) : Tr.mkl t r = .n t r := by cases t <;> rfl
theorem Tr.mkr_eq {α : Type} (l t : Tr α) : Tr.mkr l t = .n l t := by cases t <;> rfl
noncomputable def Tr.set {α : Type} (d : Nat) : Tr α → Nat → α → Tr α := Nat.rec (motive := fun _ => Tr α → Nat → α → Tr α) (fun _ _ v => .u v)
  (fun _ ih t i v => Tr.casesOn (motive := fun _ => Tr α) t (fun x => bif Nat.beq (i % 2) 0 then Tr.mkl (ih (.u x) (i / 2) v) (.u x) else Tr.mkr (.u x) (ih (.u x) (i / 2) v))
    (fun l r => bif Nat.beq (i % 2) 0 then Tr.mkl (ih l (i / 2) v) r else Tr.mkr l (ih r (i / 2) v))) d
theorem Tr.set_0 {α : Type} (t : Tr α) (i : Nat) (v : α) : Tr.set 0 t i v = .u v := rfl
theorem Tr.set_u {α : Type} (d : Nat) (x : α) (i : Nat) (v : α) : Tr.set (d + 1) (.u x) i v = bif Nat.beq (i % 2) 0 then .n (Tr.set d (.u x) (i / 2) v) (.u x) else .n (.u x) (Tr.set d (.u x) (i / 2) v) := by show (bif _ then Tr.mkl _ _ else Tr.mkr _ _) = _; rw [Tr.mkl_eq, Tr.mkr_eq]; rfl
theorem Tr.set_n {α : Type} (d : Nat) (l r : Tr α) (i : Nat) (v : α) : Tr.set (d + 1) (.n l r) i v = bif Nat.beq (i % 2) 0 then .n (Tr.set d l (i / 2) v) r else .n l (Tr.set d r (i / 2) v) := by show (bif _ then Tr.mkl _ _ else Tr.mkr _ _) = _; rw [Tr.mkl_eq, Tr.mkr_eq]; rfl
theorem Tr.get_set {α : Type} : ∀ (d : Nat) (t : Tr α) (i j : Nat) (v : α), i < 2 ^ d → j < 2 ^ d → (Tr.set d t i v).get j = if i = j then v else t.get j
  | 0, t, i, j, v, hi, hj => by
    have : i = j := by omega
    simp [Tr.set_0, Tr.get_u, this]
  | d + 1, t, i, j, v, hi, hj => by
    have hi2 : i / 2 < 2 ^ d := by have := Nat.pow_succ 2 d; omega
    have hj2 : j / 2 < 2 ^ d := by have := Nat.pow_succ 2 d; omega
    have key := fun t' => Tr.get_set d t' (i / 2) (j / 2) v hi2 hj2
    have bt : ∀ {n : Nat}, n % 2 = 0 → Nat.beq (n % 2) 0 = true := fun h => by rw [h]; rfl
    have bf : ∀ {n : Nat}, ¬ n % 2 = 0 → Nat.beq (n % 2) 0 = false := fun h => nbeq_false h
    have fin : ∀ {x y : α}, (i % 2 = 0 ↔ j % 2 = 0) → (if i / 2 = j / 2 then x else y) = if i = j then x else y := fun h => by
      by_cases e : i / 2 = j / 2
      · rw [if_pos e, if_pos (by omega)]
      · rw [if_neg e, if_neg (by omega)]
    cases t <;> by_cases h1 : i % 2 = 0 <;> by_cases h2 : j % 2 = 0 <;> (first | have b1 := bt h1 | have b1 := bf h1) <;> (first | have b2 := bt h2 | have b2 := bf h2) <;>
      simp only [Tr.set_u, Tr.set_n, Tr.get_u, Tr.get_n, b1, b2, cond_true, cond_false, key] <;> first | exact fin (by omega) | rw [if_neg (by omega)]
noncomputable def nth {α : Type} : List α → Nat → Option α
  | [], _ => none
  | x :: _, 0 => some x
  | _ :: l, i + 1 => nth l i
theorem nth_eq {α : Type} : ∀ (l : List α) (i : Nat), nth l i = l[i]?
  | [], _ => by simp [nth]
  | x :: l, 0 => by simp [nth]
  | x :: l, i + 1 => by simp [nth, nth_eq l i]
structure EnvA where
  n : Nat
  t : Tr (Option AV)
noncomputable def EnvA.get (E : EnvA) (x : Nat) : Option AV := bif Nat.blt x E.n && Nat.blt x 512 then E.t.get x else none
noncomputable def EnvA.set (E : EnvA) (x : Nat) (v : AV) : EnvA := bif Nat.blt x E.n && Nat.blt x 512 then ⟨E.n, E.t.set 9 x (some v)⟩ else E
abbrev EnvA.length (E : EnvA) : Nat := E.n
theorem EnvA.get_lt {E : EnvA} {x : Nat} {v : AV} (h : E.get x = some v) : x < E.n ∧ x < 512 := by
  unfold EnvA.get at h
  cases hb : (Nat.blt x E.n && Nat.blt x 512) with
  | false => rw [hb] at h; cases h
  | true =>
    obtain ⟨h1, h2⟩ := (Bool.and_eq_true _ _).mp hb
    exact ⟨by simpa [Nat.blt_eq] using h1, by simpa [Nat.blt_eq] using h2⟩
theorem EnvA.set_n (E : EnvA) (x : Nat) (v : AV) : (E.set x v).n = E.n := by
  unfold EnvA.set
  cases hb : (Nat.blt x E.n && Nat.blt x 512) <;> rfl
theorem EnvA.get_set {E : EnvA} {x y : Nat} {v u : AV} (h : (E.set x v).get y = some u) : (x = y ∧ u = v ∧ x < E.n) ∨ (x ≠ y ∧ E.get y = some u) ∨ (¬ x < E.n ∧ E.get y = some u) ∨ (¬ x < 512 ∧ E.get y = some u) := by
  have hlt := EnvA.get_lt h
  rw [EnvA.set_n] at hlt
  unfold EnvA.set at h
  cases hb : (Nat.blt x E.n && Nat.blt x 512) with
  | false =>
    rw [hb] at h
    rcases Bool.and_eq_false_iff.1 hb with h1 | h1
    · exact .inr (.inr (.inl ⟨fun e => (by rw [(Nat.blt_eq (x := x) (y := E.n)).mpr e] at h1; cases h1), h⟩))
    · exact .inr (.inr (.inr ⟨fun e => (by rw [(Nat.blt_eq (x := x) (y := 512)).mpr e] at h1; cases h1), h⟩))
  | true =>
    rw [hb] at h
    obtain ⟨h1, h2⟩ := (Bool.and_eq_true _ _).mp hb
    have h1' : x < E.n := by simpa [Nat.blt_eq] using h1
    have h2' : x < 512 := by simpa [Nat.blt_eq] using h2
    simp only [cond_true] at h
    have hy1 : Nat.blt y E.n = true := (Nat.blt_eq (x := y) (y := E.n)).mpr hlt.1
    have hy2 : Nat.blt y 512 = true := (Nat.blt_eq (x := y) (y := 512)).mpr hlt.2
    unfold EnvA.get at h ⊢
    simp only [hy1, hy2, Bool.and_self, cond_true] at h ⊢
    rw [Tr.get_set 9 _ _ _ _ (by simpa using h2') (by simpa using hlt.2)] at h
    by_cases e : x = y
    · rw [if_pos e] at h; exact .inl ⟨e, (Option.some.inj h).symm, h1'⟩
    · rw [if_neg e] at h; exact .inr (.inl ⟨e, h⟩)
inductive Ob where
  | dead
  | c (ty : TypeId) (l : List AV)
  /-- cells behind an append: more than 'l' may be there; 'es' cells an element -/
  | w (ty : TypeId) (es : Nat) (l : List AV)
  | loop (st : LoopState) (pend : Option Code) (ps : List Nat) (asg body : Code) (E : EnvA) (m : Nat)
  | mark
  | mp (l : List (Value × AV))
structure St where
  nb : Nat
  hp : Tr Ob
noncomputable def HD : Nat := 12
noncomputable def St.ob (s : St) (b : Nat) : Ob := s.hp.get b
noncomputable def St.new (s : St) (o : Ob) : Option (Nat × St) := bif Nat.blt s.nb 4096 then some (s.nb, ⟨s.nb + 1, s.hp.set HD s.nb o⟩) else none
noncomputable def St.put (s : St) (b : Nat) (o : Ob) : St := ⟨s.nb, s.hp.set HD b o⟩
abbrev Rho := List (Nat × Nat)
mutual
noncomputable def AV.R (ρ : Rho) : AV → Value → Prop
  | .vl x, y => y = x
  | .pt b i, y => ∃ r c, ρ[b]? = some (r, c) ∧ y = .pointer (some ⟨r, i, none⟩)
  | .sl b o n k, y => ∃ r c, ρ[b]? = some (r, c) ∧ y = .slice (some ⟨r, o, none⟩) n k
  | .sz b lo o n, y => ∃ r c, ρ[b]? = some (r, c) ∧ y = .slice (some ⟨r, o, none⟩) n (c - lo) ∧ lo + n ≤ c
  | .em, y => ∃ ad k, y = .slice (some ad) 0 k
  | .fn g fa ca, y => ∃ fa' ca', y = .func (.func g) fa' ca' ∧ AV.Rs ρ fa fa'.toList ∧ AV.Rs ρ ca ca'.toList
  | .yi l, y => ∃ r c, ρ[l]? = some (r, c) ∧ y = .func (.yield r) #[] #[]
  | .mh b, y => ∃ r c, ρ[b]? = some (r, c) ∧ y = .map (some r)
  | .tu l, y => ∃ l', y = .tuple l' ∧ AV.Rs ρ l l'.toList
  | .ag l, y => ∃ l', y = .agg l' ∧ AV.Rs ρ l l'.toList
noncomputable def AV.Rs (ρ : Rho) : List AV → List Value → Prop
  | [], [] => True
  | x :: l, y :: m => AV.R ρ x y ∧ AV.Rs ρ l m
  | _, _ => False
end
theorem pre_get {ρ ρ' : Rho} (h : ρ <+: ρ') {b : Nat} {x : Nat × Nat} (hb : ρ[b]? = some x) : ρ'[b]? = some x := by
  obtain ⟨t, rfl⟩ := h
  rw [List.getElem?_append_left (List.getElem?_eq_some_iff.1 hb).1]; exact hb
mutual
theorem AV.R.mono {ρ ρ' : Rho} (h : ρ <+: ρ') : ∀ {x : AV} {y : Value}, AV.R ρ x y → AV.R ρ' x y
  | .vl _, _, hr => hr
  | .pt _ _, _, hr => by obtain ⟨r, c, h1, h2⟩ := hr; exact ⟨r, c, pre_get h h1, h2⟩
  | .sl _ _ _ _, _, hr => by obtain ⟨r, c, h1, h2⟩ := hr; exact ⟨r, c, pre_get h h1, h2⟩
  | .sz _ _ _ _, _, hr => by obtain ⟨r, c, h1, h2⟩ := hr; exact ⟨r, c, pre_get h h1, h2⟩
  | .em, _, hr => hr
  | .fn _ _ _, _, hr => by obtain ⟨fa', ca', h1, h2, h3⟩ := hr; exact ⟨fa', ca', h1, AV.Rs.mono h h2, AV.Rs.mono h h3⟩
  | .yi _, _, hr => by obtain ⟨r, c, h1, h2⟩ := hr; exact ⟨r, c, pre_get h h1, h2⟩
  | .mh _, _, hr => by obtain ⟨r, c, h1, h2⟩ := hr; exact ⟨r, c, pre_get h h1, h2⟩
  | .tu _, _, hr => by obtain ⟨l', h1, h2⟩ := hr; exact ⟨l', h1, AV.Rs.mono h h2⟩
  | .ag _, _, hr => by obtain ⟨l', h1, h2⟩ := hr; exact ⟨l', h1, AV.Rs.mono h h2⟩
theorem AV.Rs.mono {ρ ρ' : Rho} (h : ρ <+: ρ') : ∀ {l : List AV} {m : List Value}, AV.Rs ρ l m → AV.Rs ρ' l m
  | [], [], _ => trivial
  | [], _ :: _, hr => by simp [AV.Rs] at hr
  | _ :: _, [], hr => by simp [AV.Rs] at hr
  | _ :: _, _ :: _, hr => ⟨AV.R.mono h hr.1, AV.Rs.mono h hr.2⟩
end
theorem AV.Rs.len {ρ : Rho} : ∀ {l : List AV} {m : List Value}, AV.Rs ρ l m → l.length = m.length
  | [], [], _ => rfl
  | [], _ :: _, hr => by simp [AV.Rs] at hr
  | _ :: _, [], hr => by simp [AV.Rs] at hr
  | _ :: _, _ :: _, hr => by simp [AV.Rs.len hr.2]
theorem AV.Rs.at {ρ : Rho} : ∀ {l : List AV} {m : List Value} {i : Nat} {x : AV}, AV.Rs ρ l m → l[i]? = some x → ∃ y, m[i]? = some y ∧ AV.R ρ x y
  | _ :: _, _ :: _, 0, _, hr, hx => by simp at hx; subst hx; exact ⟨_, rfl, hr.1⟩
  | _ :: l, _ :: m, i + 1, _, hr, hx => by simpa using AV.Rs.at (l := l) (m := m) hr.2 (by simpa using hx)
  | [], _, _, _, _, hx => by simp at hx
  | _ :: _, [], _, _, hr, _ => by simp [AV.Rs] at hr
theorem AV.Rs.app {ρ : Rho} : ∀ {l l2 : List AV} {m m2 : List Value}, AV.Rs ρ l m → AV.Rs ρ l2 m2 → AV.Rs ρ (l ++ l2) (m ++ m2)
  | [], _, [], _, _, h => h
  | _ :: _, _, _ :: _, _, hr, h => ⟨hr.1, AV.Rs.app hr.2 h⟩
  | [], _, _ :: _, _, hr, _ => by simp [AV.Rs] at hr
  | _ :: _, _, [], _, hr, _ => by simp [AV.Rs] at hr
theorem AV.Rs.drop {ρ : Rho} : ∀ {l : List AV} {m : List Value} (k : Nat), AV.Rs ρ l m → AV.Rs ρ (l.drop k) (m.drop k)
  | _, _, 0, hr => by simpa using hr
  | [], [], _ + 1, _ => trivial
  | _ :: _, _ :: _, k + 1, hr => by simpa using AV.Rs.drop k hr.2
  | [], _ :: _, _ + 1, hr => by simp [AV.Rs] at hr
  | _ :: _, [], _ + 1, hr => by simp [AV.Rs] at hr
theorem AV.Rs.take {ρ : Rho} : ∀ {l : List AV} {m : List Value} (k : Nat), AV.Rs ρ l m → AV.Rs ρ (l.take k) (m.take k)
  | _, _, 0, _ => by simp [AV.Rs]
  | [], [], _ + 1, _ => trivial
  | _ :: _, _ :: _, k + 1, hr => ⟨hr.1, AV.Rs.take k hr.2⟩
  | [], _ :: _, _ + 1, hr => by simp [AV.Rs] at hr
  | _ :: _, [], _ + 1, hr => by simp [AV.Rs] at hr
theorem AV.Rs.vs {ρ : Rho} : ∀ (m : List Value), AV.Rs ρ (m.map .vl) m
  | [] => trivial
  | _ :: m => ⟨rfl, AV.Rs.vs m⟩
noncomputable def ObR (ρ : Rho) (c : Nat) : Ob → Option Obj → Prop
  | .dead, _ => True
  | .c ty l, o => ∃ cs, o = some (.cells cs ty (0, 0)) ∧ AV.Rs ρ l cs.toList
  | .w ty es l, o => ∃ cs, o = some (.cells cs ty (0, 0)) ∧ cs.size = c * es ∧ l.length ≤ cs.size ∧ AV.Rs ρ l (cs.toList.take l.length)
  | .loop st pend ps asg body E m, o => ∃ r, o = some (.loop r) ∧ r.state = st ∧ r.pending = pend ∧ r.params = ps.toArray ∧ r.assign = asg ∧ r.body = body ∧ (∃ d k, ρ[m]? = some (d, k) ∧ r.defers = d) ∧ r.tmps.size = E.n ∧ ∀ x v, E.get x = some v → AV.R ρ v (r.tmps.getD x undef)
  | .mark, o => o = some (.deferred (some []))
  | .mp l, o => ∃ es k, o = some (.map es k) ∧ es.toList.map (·.key) = l.map (·.1) ∧ AV.Rs ρ (l.map (·.2)) (es.toList.map (·.val))
structure SatE (w0 : World) (ρ : Rho) (s : St) (w : World) : Prop where
  below : Below w0.heap.size w0 w
  len : ρ.length = s.nb
  nb : s.nb ≤ 4096
  obs : ∀ b r c, ρ[b]? = some (r, c) → w0.heap.size ≤ r ∧ r < w.heap.size ∧ ObR ρ c (s.ob b) w.heap[r]?
  inj : ∀ b b' r c c', ρ[b]? = some (r, c) → ρ[b']? = some (r, c') → s.ob b ≠ .dead → s.ob b' ≠ .dead → b = b'
theorem ObR.mono {ρ ρ' : Rho} {c : Nat} (h : ρ <+: ρ') : ∀ {ob : Ob} {o : Option Obj}, ObR ρ c ob o → ObR ρ' c ob o
  | .dead, _, _ => trivial
  | .c _ _, _, hr => by obtain ⟨cs, h1, h2⟩ := hr; exact ⟨cs, h1, h2.mono h⟩
  | .w _ _ _, _, hr => by obtain ⟨cs, h1, h2, h3, h4⟩ := hr; exact ⟨cs, h1, h2, h3, h4.mono h⟩
  | .loop _ _ _ _ _ _ _, _, hr => by
    obtain ⟨r, h1, h2, h3, h4, h5, h6, ⟨d, k, h7, h8⟩, h9, h10⟩ := hr
    exact ⟨r, h1, h2, h3, h4, h5, h6, ⟨d, k, pre_get h h7, h8⟩, h9, fun x v hx => (h10 x v hx).mono h⟩
  | .mark, _, hr => hr
  | .mp _, _, hr => by obtain ⟨es, k, h1, h2, h3⟩ := hr; exact ⟨es, k, h1, h2, h3.mono h⟩
theorem St.ob_new {s s' : St} {b : Nat} {o : Ob} (h : s.new o = some (b, s')) : b = s.nb ∧ s'.nb = s.nb + 1 ∧ s.nb < 4096 ∧ ∀ i, i < 4096 → s'.ob i = if s.nb = i then o else s.ob i := by
  unfold St.new at h
  cases hb : Nat.blt s.nb 4096 with
  | false => rw [hb] at h; cases h
  | true =>
    rw [hb] at h
    simp only [cond_true, Option.some.injEq, Prod.mk.injEq] at h
    obtain ⟨rfl, rfl⟩ := h
    have hlt : s.nb < 4096 := by simpa [Nat.blt_eq] using hb
    exact ⟨rfl, rfl, hlt, fun i hi => Tr.get_set HD _ _ _ _ (by simpa [HD] using hlt) (by simpa [HD] using hi)⟩
theorem St.ob_put {s : St} {b i : Nat} {o : Ob} (hb : b < 4096) (hi : i < 4096) : (s.put b o).ob i = if b = i then o else s.ob i :=
  Tr.get_set HD _ _ _ _ (by simpa [HD] using hb) (by simpa [HD] using hi)
section
variable {w0 w w' : World} {ρ : Rho} {s s' : St}
theorem SatE.lt (h : SatE w0 ρ s w) {b : Nat} {x : Nat × Nat} (hb : ρ[b]? = some x) : b < s.nb := h.len ▸ (List.getElem?_eq_some_iff.1 hb).1
theorem SatE.lt' (h : SatE w0 ρ s w) {b : Nat} {x : Nat × Nat} (hb : ρ[b]? = some x) : b < 4096 := Nat.lt_of_lt_of_le (h.lt hb) h.nb
theorem SatE.below' (h : SatE w0 ρ s w) (hb : Below w.heap.size w w') : SatE w0 ρ s w' :=
  ⟨h.below.trans (hb.mono h.below.size), h.len, h.nb, fun b r c hr => by
    obtain ⟨h1, h2, h3⟩ := h.obs b r c hr
    exact ⟨h1, Nat.lt_of_lt_of_le h2 hb.size, by rw [hb.block r h2]; exact h3⟩, h.inj⟩
theorem SatE.drew (h : SatE w0 ρ s w) : SatE w0 ρ s w.drew := h.below' (Below.refl _ _).drew
theorem SatE.add {b : Nat} {o : Ob} {r c : Nat} (h : SatE w0 ρ s w) (hn : s.new o = some (b, s')) (hb : Below w.heap.size w w') (hr : w.heap.size ≤ r) (hr' : r < w'.heap.size) (hR : ObR (ρ ++ [(r, c)]) c o w'.heap[r]?) :
    ρ <+: ρ ++ [(r, c)] ∧ (ρ ++ [(r, c)])[b]? = some (r, c) ∧ SatE w0 (ρ ++ [(r, c)]) s' w' := by
  obtain ⟨rfl, e1, e2, e3⟩ := St.ob_new hn
  have hp : ρ <+: ρ ++ [(r, c)] := ⟨_, rfl⟩
  have hl := h.len
  refine ⟨hp, by rw [← hl]; simp, h.below.trans (hb.mono h.below.size), by simp [hl, e1], by omega, fun i r' c' hi => ?_, fun i j r' c' c'' hi hj di dj => ?_⟩
  · rcases Nat.lt_or_ge i ρ.length with hlt | hge
    · rw [List.getElem?_append_left hlt] at hi
      obtain ⟨h1, h2, h3⟩ := h.obs i r' c' hi
      rw [e3 i (h.lt' hi), if_neg (by omega), hb.block r' h2]
      exact ⟨h1, Nat.lt_of_lt_of_le h2 hb.size, h3.mono hp⟩
    · have hi' : i = ρ.length := by
        have := (List.getElem?_eq_some_iff.1 hi).1
        simp at this; omega
      subst hi'
      simp at hi
      obtain ⟨rfl, rfl⟩ := hi
      rw [e3 _ (by omega), if_pos hl.symm]
      exact ⟨Nat.le_trans h.below.size hr, hr', hR⟩
  · have old : ∀ {k : Nat} {r1 c1 : Nat}, (ρ ++ [(r, c)])[k]? = some (r1, c1) → k < ρ.length → ρ[k]? = some (r1, c1) := fun hk hlt => by rwa [List.getElem?_append_left hlt] at hk
    have new : ∀ {k r1 c1 : Nat}, (ρ ++ [(r, c)])[k]? = some (r1, c1) → ¬ k < ρ.length → k = ρ.length ∧ r1 = r := by
      intro k r1 c1 hk hge
      have hlt := (List.getElem?_eq_some_iff.1 hk).1
      simp at hlt
      obtain rfl : k = ρ.length := by omega
      simp at hk
      exact ⟨rfl, hk.1.symm⟩
    by_cases hi1 : i < ρ.length <;> by_cases hj1 : j < ρ.length
    · have hi2 := old hi hi1; have hj2 := old hj hj1
      rw [e3 i (h.lt' hi2), if_neg (by omega)] at di
      rw [e3 j (h.lt' hj2), if_neg (by omega)] at dj
      exact h.inj i j r' c' c'' hi2 hj2 di dj
    · have := h.obs i _ _ (old hi hi1)
      obtain ⟨_, e⟩ := new hj hj1
      omega
    · have := h.obs j _ _ (old hj hj1)
      obtain ⟨_, e⟩ := new hi hi1
      omega
    · rw [(new hi hi1).1, (new hj hj1).1]
theorem SatE.turn {b : Nat} {o : Ob} {r c : Nat} (h : SatE w0 ρ s w) (hr : ρ[b]? = some (r, c)) (hd : s.ob b ≠ .dead) (hb : Below w0.heap.size w w') (ho : ∀ k, k ≠ r → w'.heap[k]? = w.heap[k]?) (hR : ObR ρ c o w'.heap[r]?) : SatE w0 ρ (s.put b o) w' := by
  have hb' := h.lt' hr
  refine ⟨h.below.trans hb, h.len, h.nb, fun i r' c' hi => ?_, fun i j r' c' c'' hi hj di dj => ?_⟩
  · obtain ⟨h1, h2, h3⟩ := h.obs i r' c' hi
    refine ⟨h1, Nat.lt_of_lt_of_le h2 hb.size, ?_⟩
    rw [St.ob_put hb' (h.lt' hi)]
    by_cases e : b = i
    · subst e
      rw [hr] at hi; cases hi
      rw [if_pos rfl]; exact hR
    · rw [if_neg e]
      by_cases er : r' = r
      · subst er
        by_cases hdi : s.ob i = .dead
        · rw [hdi]; trivial
        · exact absurd (h.inj b i r' c c' hr hi hd hdi) e
      · rw [ho r' er]; exact h3
  · rw [St.ob_put hb' (h.lt' hi)] at di
    rw [St.ob_put hb' (h.lt' hj)] at dj
    by_cases ei : b = i <;> by_cases ej : b = j
    · omega
    · subst ei; rw [if_neg ej] at dj; exact h.inj b j r' c' c'' hi hj hd dj
    · subst ej; rw [if_neg ei] at di; exact h.inj i b r' c' c'' hi hj di hd
    · rw [if_neg ei] at di; rw [if_neg ej] at dj; exact h.inj i j r' c' c'' hi hj di dj
theorem SatE.kill {b : Nat} (h : SatE w0 ρ s w) (hb : b < 4096) : SatE w0 ρ (s.put b .dead) w := by
  refine ⟨h.below, h.len, h.nb, fun i r' c' hi => ?_, fun i j r' c' c'' hi hj di dj => ?_⟩
  · obtain ⟨h1, h2, h3⟩ := h.obs i r' c' hi
    refine ⟨h1, h2, ?_⟩
    rw [St.ob_put hb (h.lt' hi)]
    by_cases e : b = i
    · rw [if_pos e]; trivial
    · rw [if_neg e]; exact h3
  · rw [St.ob_put hb (h.lt' hi)] at di
    rw [St.ob_put hb (h.lt' hj)] at dj
    by_cases ei : b = i
    · rw [if_pos ei] at di; exact absurd rfl di
    · by_cases ej : b = j
      · rw [if_pos ej] at dj; exact absurd rfl dj
      · rw [if_neg ei] at di; rw [if_neg ej] at dj; exact h.inj i j r' c' c'' hi hj di dj
end
noncomputable def St.cells (s : St) (b : Nat) : Option (List AV) :=
  match s.ob b with
  | .c _ l => some l
  | .w _ _ l => some l
  | _ => none
noncomputable def consS {α : Type} (x : α) : List α → List α
  | [] => [x]
  | y :: l => x :: y :: l
theorem consS_eq {α : Type} (x : α) (l : List α) : consS x l = x :: l := by cases l <;> rfl
noncomputable def lenF {α : Type} (l : List α) : Nat := List.rec (motive := fun _ => Nat) 0 (fun _ _ n => n + 1) l
theorem lenF_eq {α : Type} : ∀ l : List α, lenF l = l.length
  | [] => rfl
  | _ :: l => by show lenF l + 1 = _; rw [lenF_eq l]; rfl
noncomputable def dropF {α : Type} (l : List α) : Nat → List α := List.rec (motive := fun _ => Nat → List α) (fun _ => []) (fun x l ih i => Nat.casesOn (motive := fun _ => List α) i (x :: l) ih) l
theorem dropF_eq {α : Type} : ∀ (l : List α) (i : Nat), dropF l i = l.drop i
  | [], i => by simp [dropF]
  | _ :: _, 0 => rfl
  | _ :: l, i + 1 => by show dropF l i = _; rw [dropF_eq l i]; rfl
noncomputable def takeF {α : Type} (l : List α) : Nat → List α := List.rec (motive := fun _ => Nat → List α) (fun _ => []) (fun x _ ih i => Nat.casesOn (motive := fun _ => List α) i [] (fun j => consS x (ih j))) l
theorem takeF_eq {α : Type} : ∀ (l : List α) (i : Nat), takeF l i = l.take i
  | [], i => by simp [takeF]
  | _ :: _, 0 => rfl
  | x :: l, i + 1 => by show consS x (takeF l i) = _; rw [consS_eq, takeF_eq l i]; rfl
noncomputable def putL {α : Type} (l : List α) : Nat → List α → List α := List.rec (motive := fun _ => Nat → List α → List α) (fun _ _ => [])
  (fun a l ih i x => Nat.casesOn (motive := fun _ => List α) i (List.casesOn (motive := fun _ => List α) x (a :: l) (fun y x' => consS y (ih 0 x'))) (fun j => consS a (ih j x))) l
theorem putL_eq {α : Type} : ∀ (l : List α) (i : Nat) (x : List α), i + x.length ≤ l.length → putL l i x = l.take i ++ x ++ l.drop (i + x.length)
  | [], i, x, h => by
    simp at h
    obtain ⟨rfl, rfl⟩ := h
    rfl
  | a :: l, 0, [], _ => by show a :: l = _; simp
  | a :: l, 0, y :: x, h => by
    show consS y (putL l 0 x) = _
    rw [consS_eq, putL_eq l 0 x (by simpa using h)]
    simp
  | a :: l, i + 1, x, h => by
    show consS a (putL l i x) = _
    rw [consS_eq, putL_eq l i x (by simp at h; omega)]
    simp only [List.take_succ_cons, List.cons_append]
    rw [show i + 1 + x.length = (i + x.length) + 1 by omega, List.drop_succ_cons]
noncomputable def St.read (s : St) (b i n : Nat) : Option (List AV) :=
  match s.cells b with
  | some l => bif Nat.beq (lenF (takeF (dropF l i) n)) n then some (takeF (dropF l i) n) else none
  | none => none
noncomputable def AV.one : AV → Bool
  | .vl x => x.oneCell'
  | .tu _ | .ag _ => false
  | _ => true
noncomputable def fits (l : List AV) (i n : Nat) : Bool := Nat.beq (lenF (takeF (dropF l i) n)) n
theorem fits_le {l : List AV} {i n : Nat} (h : fits l i n = true) (h0 : 0 < n) : i + n ≤ l.length := by
  unfold fits at h
  rw [lenF_eq, takeF_eq, dropF_eq] at h
  simp at h
  omega
noncomputable def St.write (s : St) (b i : Nat) (m : List AV) : Option St := match m with
  | [] => some s
  | x :: m' => bif (x :: m').all AV.one then
    match s.ob b with
    | .c ty l => bif fits l i (lenF (x :: m')) then some (s.put b (.c ty (putL l i (x :: m')))) else none
    | .w ty es l => bif fits l i (lenF (x :: m')) then some (s.put b (.w ty es (putL l i (x :: m')))) else none
    | _ => none
  else none
section
variable {w0 w w' : World} {ρ : Rho} {s s' : St}
theorem SatE.cells (h : SatE w0 ρ s w) {b r c : Nat} {l : List AV} (hr : ρ[b]? = some (r, c)) (hl : s.cells b = some l) :
    ∃ cs ty, w.heap[r]? = some (.cells cs ty (0, 0)) ∧ l.length ≤ cs.size ∧ AV.Rs ρ l (cs.toList.take l.length) := by
  obtain ⟨_, _, h3⟩ := h.obs b r c hr
  unfold St.cells at hl
  cases ho : s.ob b with
  | c ty l' =>
    rw [ho] at hl h3; cases hl
    obtain ⟨cs, e1, e2⟩ := h3
    have := e2.len
    exact ⟨cs, ty, e1, by simp at this; omega, by rw [List.take_of_length_le (by omega)]; exact e2⟩
  | w ty es l' =>
    rw [ho] at hl h3; cases hl
    obtain ⟨cs, e1, _, e3, e4⟩ := h3
    exact ⟨cs, ty, e1, e3, e4⟩
  | dead => rw [ho] at hl; cases hl
  | loop => rw [ho] at hl; cases hl
  | mark => rw [ho] at hl; cases hl
  | mp => rw [ho] at hl; cases hl
theorem SatE.read (h : SatE w0 ρ s w) {b r c i n : Nat} {l : List AV} (hr : ρ[b]? = some (r, c)) (hl : s.read b i n = some l) :
    ∃ l', AV.Rs ρ l l' ∧ l'.length = n ∧ ∀ (j : Nat) v, l'[j]? = some v → w.cell? ⟨r, i + j, none⟩ = some v := by
  unfold St.read at hl
  cases hc : s.cells b with
  | none => rw [hc] at hl; cases hl
  | some l0 =>
    rw [hc] at hl
    simp only at hl
    cases hb : Nat.beq (lenF (takeF (dropF l0 i) n)) n with
    | false => rw [hb] at hl; cases hl
    | true =>
      rw [hb] at hl
      simp only [cond_true, Option.some.injEq] at hl
      subst hl
      rw [lenF_eq, takeF_eq, dropF_eq] at hb
      rw [takeF_eq, dropF_eq]
      have hlen : ((l0.drop i).take n).length = n := Nat.eq_of_beq_eq_true hb
      obtain ⟨cs, ty, e1, e2, e3⟩ := h.cells hr hc
      have hR : AV.Rs ρ ((l0.drop i).take n) (((cs.toList.take l0.length).drop i).take n) := (e3.drop i).take n
      refine ⟨_, hR, by rw [← hR.len]; exact hlen, fun j v hj => ?_⟩
      have hjn : j < n := by
        have := (List.getElem?_eq_some_iff.1 hj).1
        rw [← hR.len, hlen] at this; exact this
      have hle : i + n ≤ l0.length := by simp at hlen; omega
      rw [List.getElem?_take_of_lt hjn, List.getElem?_drop, List.getElem?_take_of_lt (by omega)] at hj
      simp only [World.cell?, e1]
      simpa using hj
end
theorem AV.one_of {ρ : Rho} : ∀ {x : AV} {y : Value}, x.one = true → AV.R ρ x y → y.oneCell' = true
  | .vl _, _, h, hr => by cases hr; exact h
  | .pt _ _, _, _, hr => by obtain ⟨_, _, _, rfl⟩ := hr; rfl
  | .sl _ _ _ _, _, _, hr => by obtain ⟨_, _, _, rfl⟩ := hr; rfl
  | .sz _ _ _ _, _, _, hr => by obtain ⟨_, _, _, rfl, _⟩ := hr; rfl
  | .em, _, _, hr => by obtain ⟨_, _, rfl⟩ := hr; rfl
  | .fn _ _ _, _, _, hr => by obtain ⟨_, _, rfl, _⟩ := hr; rfl
  | .yi _, _, _, hr => by obtain ⟨_, _, _, rfl⟩ := hr; rfl
  | .mh _, _, _, hr => by obtain ⟨_, _, _, rfl⟩ := hr; rfl
  | .tu _, _, h, _ => by simp [AV.one] at h
  | .ag _, _, h, _ => by simp [AV.one] at h
theorem AV.Rs.ones {ρ : Rho} : ∀ {l : List AV} {m : List Value}, l.all AV.one = true → AV.Rs ρ l m → ∀ v ∈ m, v.oneCell' = true
  | [], [], _, _ => by simp
  | x :: l, y :: m, h, hr => by
    simp only [List.all_cons, Bool.and_eq_true] at h
    intro v hv
    cases hv with
    | head => exact AV.one_of h.1 hr.1
    | tail _ hv => exact AV.Rs.ones h.2 hr.2 v hv
  | [], _ :: _, _, hr => by simp [AV.Rs] at hr
  | _ :: _, [], _, hr => by simp [AV.Rs] at hr
theorem AV.Rs.put {ρ : Rho} {l : List AV} {m : List Value} {x : List AV} {y : List Value} (h : AV.Rs ρ l m) (hx : AV.Rs ρ x y) (i : Nat) (hle : i + x.length ≤ l.length) : AV.Rs ρ (putL l i x) (m.take i ++ y ++ m.drop (i + y.length)) := by
  rw [putL_eq _ _ _ hle, hx.len]
  exact ((h.take i).app hx).app (h.drop _)
section
variable {P : Program} {w0 w w' : World} {ρ : Rho} {s s' : St}
theorem SatE.write (h : SatE w0 ρ s w) {b r c i : Nat} {m : List AV} {m' : List Value} (hr : ρ[b]? = some (r, c)) (hw : s.write b i m = some s') (hm : AV.Rs ρ m m') :
    ∃ w', (storeCells ⟨r, i, none⟩ m').run P w = .ok () w' ∧ SatE w0 ρ s' w' := by
  unfold St.write at hw
  cases hm0 : m with
  | nil =>
    subst hm0
    cases hw
    match m', hm with
    | [], _ => exact ⟨w, by simp [storeCells], h⟩
    | _ :: _, hm => simp [AV.Rs] at hm
  | cons x0 m0 =>
  rw [hm0] at hw
  simp only at hw
  rw [← hm0] at hw
  have hpos : 0 < m.length := by rw [hm0]; simp
  cases h1 : m.all AV.one with
  | false => rw [h1] at hw; cases hw
  | true =>
    rw [h1] at hw
    have ones := AV.Rs.ones h1 hm
    have hml := hm.len
    obtain ⟨hb, _, h3⟩ := h.obs b r c hr
    have go : ∀ {cs : Array Value} {ty : TypeId} {ob : Ob}, w.heap[r]? = some (.cells cs ty (0, 0)) → i + m'.length ≤ cs.size → s.ob b ≠ .dead →
        (∀ cs' : Array Value, cs'.size = cs.size → cs'.toList = cs.toList.take i ++ m' ++ cs.toList.drop (i + m'.length) → ObR ρ c ob (some (.cells cs' ty (0, 0)))) →
        ∃ w', (storeCells ⟨r, i, none⟩ m').run P w = .ok () w' ∧ SatE w0 ρ (s.put b ob) w' := by
      intro cs ty ob hc hle hd hR
      have hst := run_storeCells_at P r i ty m' 0 cs w hc (by omega) ones
      simp only [Nat.add_zero] at hst
      refine ⟨_, hst, h.turn hr hd (setRow_below hb) (fun j hj => setRow_other w r j _ hj) ?_⟩
      rw [setRow_heap w r cs _ ty _ hc]
      refine hR _ ?_ rfl
      simp only [List.size_toArray, List.length_append, List.length_take, List.length_drop, Array.length_toList]
      omega
    cases ho : s.ob b with
    | c ty l =>
      rw [ho] at hw h3
      simp only [cond_true] at hw
      cases hle : fits l i (lenF m) with
      | false => rw [hle] at hw; cases hw
      | true =>
        rw [hle] at hw
        simp only [cond_true, Option.some.injEq] at hw
        subst hw
        obtain ⟨cs, e1, e2⟩ := h3
        have hlen := e2.len
        have hle' : i + m.length ≤ l.length := by rw [lenF_eq] at hle; exact fits_le hle hpos
        simp at hlen
        exact go e1 (by omega) (by rw [ho]; simp) fun cs' _ e => ⟨cs', rfl, by rw [e]; exact e2.put hm i hle'⟩
    | w ty es l =>
      rw [ho] at hw h3
      simp only [cond_true] at hw
      cases hle : fits l i (lenF m) with
      | false => rw [hle] at hw; cases hw
      | true =>
        rw [hle] at hw
        simp only [cond_true, Option.some.injEq] at hw
        subst hw
        obtain ⟨cs, e1, e2, e3, e4⟩ := h3
        have hle' : i + m.length ≤ l.length := by rw [lenF_eq] at hle; exact fits_le hle hpos
        have hpl : (putL l i m).length = l.length := by rw [putL_eq _ _ _ hle']; simp; omega
        refine go e1 (by omega) (by rw [ho]; simp) fun cs' es' e => ⟨cs', rfl, by rw [es']; exact e2, by rw [hpl, es']; exact e3, ?_⟩
        have := e4.put hm i hle'
        have eq : List.take l.length (List.take i cs.toList ++ m' ++ List.drop (i + m'.length) cs.toList) = List.take i (List.take l.length cs.toList) ++ m' ++ List.drop (i + m'.length) (List.take l.length cs.toList) := by
          have hc : cs.toList.length = cs.size := Array.length_toList
          have hx : (List.take i cs.toList ++ m').length = i + m'.length := by simp; omega
          rw [List.take_append, hx, List.take_of_length_le (by rw [hx]; omega), List.take_take, Nat.min_eq_left (by omega), List.drop_take]
        rw [hpl, e, eq]; exact this
    | dead => rw [ho] at hw; cases hw
    | loop => rw [ho] at hw; cases hw
    | mark => rw [ho] at hw; cases hw
    | mp => rw [ho] at hw; cases hw
end
end Go.Sl.Ev
namespace Go.Sl.Ev
open Go.RowKit
structure Ag (ρ : Rho) (n : Nat) (E : EnvA) (a : Act) : Prop where
  size : a.tmps.size = n
  len : E.n = n
  val : ∀ x v, E.get x = some v → AV.R ρ v (a.tmps.getD x undef)
noncomputable def lift : Value → AV
  | .agg cs => .ag (cs.toList.map .vl)
  | .tuple cs => .tu (cs.toList.map .vl)
  | x => .vl x
theorem lift_R {ρ : Rho} (x : Value) : AV.R ρ (lift x) x := by
  cases x <;> first | rfl | exact ⟨_, rfl, AV.Rs.vs _⟩
noncomputable def opr (E : EnvA) : Operand → Option AV
  | .tmp t => E.get t
  | .const c => some (lift c)
  | .global _ => none
  | .func f => some (.fn f [] [])
theorem Ag.opr {ρ : Rho} {n : Nat} {E : EnvA} {a : Act} (h : Ag ρ n E a) {x : Operand} {v : AV} (hx : opr E x = some v) : AV.R ρ v (a.eval x) := by
  cases x with
  | tmp t => exact h.val t _ hx
  | const c => cases hx; exact lift_R c
  | global g => cases hx
  | func f => cases hx; exact ⟨#[], #[], rfl, trivial, trivial⟩
noncomputable def oprs (E : EnvA) : List Operand → Option (List AV)
  | [] => some []
  | x :: l => match opr E x with
    | some v => match oprs E l with
      | some vs => some (v :: vs)
      | none => none
    | none => none
theorem Ag.oprs {ρ : Rho} {n : Nat} {E : EnvA} {a : Act} (h : Ag ρ n E a) : ∀ {l : List Operand} {vs : List AV}, oprs E l = some vs → AV.Rs ρ vs (l.map a.eval)
  | [], _, hx => by cases hx; trivial
  | x :: l, vs, hx => by
    simp only [Ev.oprs] at hx
    split at hx
    · rename_i v hv
      split at hx
      · rename_i us hu
        cases hx
        exact ⟨h.opr hv, h.oprs hu⟩
      · cases hx
    · cases hx
theorem Ag.mono {ρ ρ' : Rho} {n : Nat} {E : EnvA} {a : Act} (h : Ag ρ n E a) (hp : ρ <+: ρ') : Ag ρ' n E a := ⟨h.size, h.len, fun x v hx => (h.val x v hx).mono hp⟩
noncomputable def setL {α : Type} (l : List α) : Nat → α → List α := List.rec (motive := fun _ => Nat → α → List α) (fun _ _ => []) (fun x l ih i y => Nat.casesOn (motive := fun _ => List α) i (y :: l) (fun j => consS x (ih j y))) l
theorem setL_eq {α : Type} : ∀ (l : List α) (i : Nat) (y : α), setL l i y = l.set i y
  | [], _, _ => rfl
  | _ :: _, 0, _ => rfl
  | x :: l, i + 1, y => by show consS x (setL l i y) = _; rw [consS_eq, setL_eq l i y]; rfl
noncomputable def setE (E : EnvA) : Option Nat → AV → EnvA
  | some d, v => E.set d v
  | none, _ => E
theorem Ag.put {ρ : Rho} {n : Nat} {E : EnvA} {a : Act} (h : Ag ρ n E a) {v : AV} {u : Value} (hv : AV.R ρ v u) (d : Option Nat) : Ag ρ n (setE E d v) (a.put d u) := by
  cases d with
  | none => exact h
  | some d =>
    refine ⟨by simp [Act.put, h.size], by simp [setE, EnvA.set_n, h.len], fun x v' hx => ?_⟩
    have old : E.get x = some v' → d ≠ x ∨ ¬ d < n → AV.R ρ v' ((a.put (some d) u).tmps.getD x undef) := fun hx hd => by
      have := h.val x v' hx
      by_cases e : d = x
      · subst e
        have := (EnvA.get_lt hx).1
        rw [h.len] at this
        rcases hd with hd | hd
        · exact absurd rfl hd
        · exact absurd this hd
      · simp only [Act.put, Array.getD_eq_getD_getElem?] at this ⊢
        rw [Array.getElem?_setIfInBounds_ne e]
        exact this
    rcases EnvA.get_set hx with ⟨rfl, rfl, hlt⟩ | ⟨e, hx⟩ | ⟨e, hx⟩ | ⟨e, hx⟩
    · rw [h.len] at hlt
      have : (a.put (some d) u).tmps.getD d undef = u := by simp [Act.put, Array.getD_eq_getD_getElem?, h.size, hlt]
      rw [this]; exact hv
    · exact old hx (.inl e)
    · exact old hx (.inr (by rw [← h.len]; exact e))
    · refine old hx (.inl fun e2 => ?_)
      subst e2
      exact e (EnvA.get_lt hx).2
section
variable (P : Program)
noncomputable def szOf (t : TypeId) : Option Nat := match P.info? t with
  | some i => some i.size
  | none => none
noncomputable def flOf (t : TypeId) : Option Bool := match P.underlying t with
  | some d => some (flat d)
  | none => none
noncomputable def zrOf (t : TypeId) : Option Value := match P.info? t with
  | some i => i.zero
  | none => none
end
section
variable {P : Program} {t : TypeId}
theorem run_sz {n : Nat} (h : szOf P t = some n) (w : World) : (sizeOf t).run P w = .ok n w := by
  unfold szOf at h
  split at h
  · rename_i i hi; cases h; simp [sizeOf, typeInfo, hi, Result.andThen]
  · cases h
theorem run_fl {b : Bool} (h : flOf P t = some b) (w : World) : (isAgg t).run P w = .ok (!b) w := by
  unfold flOf at h
  split at h
  · rename_i d hd; cases h
    have := run_underlying hd w
    cases d <;> simp [Go.isAgg, this, Result.andThen, flat]
  · cases h
theorem run_zr {z : Value} (h : zrOf P t = some z) (w : World) : (zeroValue t).run P w = .ok z w := by
  unfold zrOf at h
  split at h
  · rename_i i hi; simp [zeroValue, typeInfo, hi, Result.andThen, h]
  · cases h
end
end Go.Sl.Ev
namespace Go.Sl.Ev
open Go.RowKit
noncomputable def Same (ρ : Rho) (L : List (Nat × Nat)) (w w' : World) : Prop := ∀ x ∈ L, ∀ r c, ρ[x.1]? = some (r, c) → w'.cell? ⟨r, x.2, none⟩ = w.cell? ⟨r, x.2, none⟩
noncomputable def Reads (P : Program) (ρ : Rho) (a : Act) (w : World) (L : List (Nat × Nat)) (op : Op) (v : AV) : Prop :=
  ∃ u, AV.R ρ v u ∧ ∀ d ty pos aft g w', Same ρ L w w' → (execOp a.eval ⟨d, op, ty, pos, aft, g⟩).run P w' = .ok (.value u) w'
noncomputable def idx : AV → Option Nat
  | .vl (.int _ (.ofNat i)) => some i
  | _ => none
theorem idx_spec {ρ : Rho} {x : AV} {y : Value} {i : Nat} (h : idx x = some i) (hr : AV.R ρ x y) : ∃ q, y = .int q (i : Int) := by
  unfold idx at h
  split at h
  · cases h; exact ⟨_, hr⟩
  · cases h
noncomputable def fldOf (P : Program) (t : TypeId) (f : Nat) : Option (Nat × Nat × Bool) := match P.underlying t with
  | some (.struct fs) => match nth fs.toList f with
    | some fd => match szOf P fd.type, flOf P fd.type with
      | some s, some b => some (fd.offset, s, b)
      | _, _ => none
    | none => none
  | _ => none
theorem fldOf_spec {P : Program} {t : TypeId} {f o s : Nat} {b : Bool} (h : fldOf P t f = some (o, s, b)) : ∃ fs fd, P.underlying t = some (.struct fs) ∧ fs[f]? = some fd ∧ fd.offset = o ∧ szOf P fd.type = some s ∧ flOf P fd.type = some b := by
  unfold fldOf at h
  split at h
  · rename_i fs hfs
    split at h
    · rename_i fd hfd
      split at h
      · rename_i s' b' hs hb
        cases h
        exact ⟨fs, fd, hfs, by rw [nth_eq] at hfd; simpa using hfd, rfl, hs, hb⟩
      · cases h
    · cases h
  · cases h
noncomputable def bitsA (op : BinOp) (q : IntKind) (i j : Int) : Value := .int q (Go.Sl.bitsOf op q i j)
noncomputable def intOp (op : BinOp) (q : IntKind) (i j : Int) : Option Value :=
  match op with
  | .add => some (.int q (q.wrap (i + j)))
  | .sub => some (.int q (q.wrap (i - j)))
  | .mul => some (.int q (q.wrap (i * j)))
  | .quo => bif decide (j = 0) then none else some (.int q (q.wrap (i.tdiv j)))
  | .rem => bif decide (j = 0) then none else some (.int q (i.tmod j))
  | .and => some (bitsA .and q i j)
  | .or => some (bitsA .or q i j)
  | .xor => some (bitsA .xor q i j)
  | .andNot => some (bitsA .andNot q i j)
  | .eql => some (.bool (decide (i = j)))
  | .neq => some (.bool (decide (i ≠ j)))
  | .lss => some (.bool (decide (i < j)))
  | .leq => some (.bool (decide (i ≤ j)))
  | .gtr => some (.bool (decide (j < i)))
  | .geq => some (.bool (decide (j ≤ i)))
  | _ => none
noncomputable def shOp (op : BinOp) (q : IntKind) (i j : Int) : Option Value :=
  bif decide (j < 0) then none else match op with
  | .shl => some (.int q (q.wrap (i * 2 ^ (min j.toNat q.bits))))
  | .shr => some (.int q (i.fdiv (2 ^ (min j.toNat q.bits))))
  | _ => none
theorem intOp_spec {op : BinOp} {q : IntKind} {i j : Int} {v : Value} (h : intOp op q i j = some v) (t : TypeId) (P : Program) (w : World) : (Go.binOp op t (.int q i) (.int q j)).run P w = .ok v w := by
  have nz : ∀ {x y : Option Value}, (bif decide (j = 0) then none else x) = some v → j ≠ 0 ∧ x = some v := fun h => by
    by_cases e : j = 0
    · simp [e] at h
    · simpa [e] using h
  cases op with
  | add => cases h; exact b_add rfl P w
  | sub => cases h; exact b_sub rfl P w
  | mul => cases h; exact b_mul rfl P w
  | and => cases h; exact b_and rfl P w
  | or => cases h; exact b_or rfl P w
  | xor => cases h; exact b_xor rfl P w
  | andNot => cases h; exact b_andNot rfl P w
  | eql => cases h; exact b_eql P w
  | neq => cases h; exact b_neq P w
  | lss => cases h; exact b_lss P w
  | leq => cases h; exact b_leq P w
  | gtr => cases h; exact b_gtr P w
  | geq => cases h; exact b_geq P w
  | quo => simp only [intOp] at h; obtain ⟨h0, h⟩ := nz (y := none) h; cases h; exact b_quo h0 rfl P w
  | rem => simp only [intOp] at h; obtain ⟨h0, h⟩ := nz (y := none) h; cases h; exact b_rem h0 rfl P w
  | _ => cases h
theorem shOp_spec {op : BinOp} {q q' : IntKind} {i j : Int} {v : Value} (h : shOp op q i j = some v) (t : TypeId) (P : Program) (w : World) : (Go.binOp op t (.int q i) (.int q' j)).run P w = .ok v w := by
  unfold shOp at h
  by_cases e : j < 0
  · simp [e] at h
  · simp only [e, decide_false, cond_false] at h
    cases op with
    | shl => cases h; exact b_shl (by omega) rfl P w
    | shr => cases h; exact b_shr (by omega) rfl P w
    | _ => cases h
end Go.Sl.Ev
