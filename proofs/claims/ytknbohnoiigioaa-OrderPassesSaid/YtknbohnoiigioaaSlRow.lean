/-
  Own work: the small logic, more of its rules; of any program.
-/
import Derived.Test.YtknbohnoiigioaaSlEq
set_option linter.all false
set_option linter.unusedSimpArgs false
set_option linter.unusedVariables false
namespace Go.Sl
open Go.RowKit
section
variable {P : Program} {w0 : World} {H H' : Heap}
theorem Cell.up {b i : Nat} {v : Value} (h : Cell w0 H b i v) (hs : HSub H' H) : Cell w0 H' b i v := fun w hw => h w (hw.hsub hs)
theorem Cells.up {b i : Nat} {vs : List Value} (h : Cells w0 H b i vs) (hs : HSub H' H) : Cells w0 H' b i vs := fun j v hv => (h j v hv).up hs
theorem Holds.up {ad : Option Addr} {l : List Value} (h : Holds w0 H ad l) (hs : HSub H' H) : Holds w0 H' ad l := fun j x hx => by
  obtain ⟨b, o, e, hc⟩ := h j x hx
  exact ⟨b, o, e, hc.up hs⟩
theorem Holds.take {ad : Option Addr} {l : List Value} (h : Holds w0 H ad l) (k : Nat) : Holds w0 H ad (l.take k) := fun j x hx => h j x (by
  rw [List.getElem?_take] at hx
  split at hx
  · exact hx
  · cases hx)
theorem Holds.old {ad : Option Addr} {l : List Value} (h : ∀ (j : Nat) x, l[j]? = some x → ∃ b o, ad = some ⟨b, o, none⟩ ∧ w0.cell? ⟨b, o + j, none⟩ = some x) : Holds w0 H ad l := fun j x hx => by
  obtain ⟨b, o, e, hc⟩ := h j x hx
  exact ⟨b, o, e, Cell.old hc⟩
theorem Holds.at {ad : Option Addr} {l : List Value} {i : Nat} {v : Value} (h : Holds w0 H ad l) (hv : l[i]? = some v) : ∃ b o, ad = some ⟨b, o, none⟩ ∧ Cell w0 H b (o + i) v := h i v hv
/-- rows of elements of several cells -/
theorem flat_at {α : Type} {f : α → List Value} {s : Nat} (hf : ∀ x, (f x).length = s) : ∀ {l : List α} {i : Nat} {x : α}, l[i]? = some x → ∀ j v, (f x)[j]? = some v → (l.flatMap f)[i * s + j]? = some v
  | [], _, _, h, _, _, _ => by simp at h
  | y :: l, 0, x, h, j, v, hv => by
    have : y = x := by simpa using h
    subst this
    rw [List.flatMap_cons, List.getElem?_append_left (by rw [Nat.zero_mul, Nat.zero_add]; exact (List.getElem?_eq_some_iff.1 hv).1)]
    simpa using hv
  | y :: l, i + 1, x, h, j, v, hv => by
    have ih := flat_at hf (l := l) (i := i) (by simpa using h) j v hv
    rw [List.flatMap_cons, List.getElem?_append_right (by rw [hf, Nat.add_mul]; omega), hf, show (i + 1) * s + j - s = i * s + j by rw [Nat.add_mul]; omega]
    exact ih
theorem flat_length {α : Type} {f : α → List Value} {s : Nat} (hf : ∀ x, (f x).length = s) : ∀ l : List α, (l.flatMap f).length = l.length * s
  | [] => by simp
  | x :: l => by rw [List.flatMap_cons, List.length_append, hf, flat_length hf l, List.length_cons, Nat.add_mul]; omega
theorem Holds.row {α : Type} {f : α → List Value} {s : Nat} (hf : ∀ x, (f x).length = s) (hs : 0 < s) {ad : Option Addr} {l : List α} {i : Nat} {x : α} (h : Holds w0 H ad (l.flatMap f)) (hx : l[i]? = some x) : ∃ b o, ad = some ⟨b, o, none⟩ ∧ Cells w0 H b (o + i * s) (f x) := by
  have h0 : 0 < (f x).length := by rw [hf]; exact hs
  obtain ⟨b, o, e, _⟩ := h _ _ (flat_at hf hx 0 _ (List.getElem?_eq_getElem h0))
  subst e
  refine ⟨b, o, rfl, fun j v hv => ?_⟩
  obtain ⟨b', o', e', hc⟩ := h _ _ (flat_at hf hx j v hv)
  cases e'
  rw [Nat.add_assoc]; exact hc
theorem Holds.of_own {e : TypeId} {s : Nat} {v : Value} {n : Nat} {xs : List Value} {HB : Heap} (h : OwnS e s v n xs HB) (hm : ∀ p ∈ HB, p ∈ H) : ∃ ad cap, v = .slice ad n cap ∧ n ≤ cap ∧ cap ≤ maxLen ∧ Holds w0 H ad xs := by
  cases h with
  | nil => exact ⟨none, 0, rfl, Nat.le_refl _, Nat.zero_le _, Holds.nil⟩
  | own h1 h2 h3 => exact ⟨_, _, rfl, h2, h3, Holds.own (hm _ List.mem_cons_self)⟩
/-- a contract that leaves what is known as it is -/
def PureAt (P : Program) (w0 : World) (H : Heap) (f : FuncId) (args : List Value) (v : Value) : Prop := LCalls P w0 f args.toArray H (fun v' H' => v' = v ∧ H' = H)
theorem Pure.at {T : World → Prop} {f : FuncId} {args : List Value} {v : Value} (h : Pure P T f args v) (hT : T w0) : PureAt P w0 H f args v := h w0 H hT
end
section
variable {P : Program} {rd : Option Nat} {w0 : World} {Q : Exit → Act → World → Prop} {n : Nat} {ds : List Deferred} {k : List It} {env env' : Env} {H H' : Heap} {all : Array Oper} {rest : List Oper}
variable {x y c : Operand} {t u ty : TypeId} {pos : String} {aft : Array Edge} {v : Value}
theorem yielded_undef {a : Act} (ha : Agree n env a) {j dj : Nat} (hj : (all[j]?).bind (·.dst) = some dj) (ht : look env dj = some undef) : yielded all a.tmps j = none := by
  have hv := ha.val _ _ ht
  unfold yielded
  rw [hj]
  simp only [Option.bind_some]
  rcases Nat.lt_or_ge dj a.tmps.size with h | h
  · rw [Array.getD_eq_getD_getElem?, Array.getElem?_eq_getElem h] at hv
    rw [Array.getElem?_eq_getElem h]
    simp only [Option.getD_some] at hv
    rw [hv]; rfl
  · rw [Array.getElem?_eq_none h]
/-- a guard on what was passed over -/
theorem W_gnou {d : Option Nat} {op : Op} {aft : Array Edge} {j : Nat} {b : Bool} {dj : Nat} (hj : (all[j]?).bind (·.dst) = some dj) (ht : look env dj = some undef) (hd : dok n d = true)
    (h : W P rd w0 Q n ds (.ops all rest :: k) (put d undef env) H) : W P rd w0 Q n ds (.ops all (⟨d, op, t, pos, aft, some (j, b)⟩ :: rest) :: k) env H := by
  intro a w ha hds hs
  have hy := yielded_undef ha hj ht
  show wpListIn (fen rd) 0 P all (Cont P rd Q k) (_ :: rest) a w
  unfold wpListIn
  rw [if_neg (by simp [Region.wanted, hy])]
  exact ⟨fun _ _ => trivial, h (a.put d undef) w (ha.put hd) (by cases d <;> exact hds) hs⟩
theorem W_callq {d : Option Nat} {f : FuncId} {l : List Operand} {vs : List Value} {tys : Array TypeId} (hc : OpVs env l vs) (hf : ∀ (args : Array Value) (w : World), (callFunc f args).run P w = .ok (.enter f args) w) (hd : dok n d = true)
    (hL : PureAt P w0 H f vs v) (h : W P rd w0 Q n ds (.ops all rest :: k) (put d v env) H) :
    W P rd w0 Q n ds (.ops all (⟨d, .call ⟨.value (.func f), l.toArray, tys⟩, t, pos, aft, none⟩ :: rest) :: k) env H :=
  W_call hc hf hd hL (by rintro v' H' ⟨rfl, rfl⟩; exact h)
theorem W_callqv {d : Option Nat} {f : FuncId} {l : List Operand} {vs args : List Value} {fa ca : List Value} {tys : Array TypeId} (hx : opv env x = some (.func (.func f) fa.toArray ca.toArray)) (hc : OpVs env l vs) (ha : fa ++ vs ++ ca = args) (hf : ∀ (args : Array Value) (w : World), (callFunc f args).run P w = .ok (.enter f args) w) (hd : dok n d = true)
    (hL : PureAt P w0 H f args v) (h : W P rd w0 Q n ds (.ops all rest :: k) (put d v env) H) :
    W P rd w0 Q n ds (.ops all (⟨d, .call ⟨.value x, l.toArray, tys⟩, t, pos, aft, none⟩ :: rest) :: k) env H := by
  subst ha
  refine W_callv hx hc hf hd (R := fun v' H' => v' = v ∧ H' = H) ?_ (by rintro v' H' ⟨rfl, rfl⟩; exact h)
  have := hL
  unfold PureAt at this
  simpa using this
theorem WQ_callq {ops : Array Oper} {f : FuncId} {l : List Operand} {vs : List Value} {d : Option Nat} {tys : Array TypeId} (hc : OpVs env l vs) (hf : ∀ (args : Array Value) (w : World), (callFunc f args).run P w = .ok (.enter f args) w) (hd : dok n d = true)
    (hL : PureAt P w0 H f vs v) (h : WQ P w0 Q n ds k ops rest (put d v env) H) :
    WQ P w0 Q n ds k ops (⟨d, .call ⟨.value (.func f), l.toArray, tys⟩, ty, pos, aft, none⟩ :: rest) env H := fun a ha hds => by
  refine ⟨fun _ _ _ _ => trivial, ?_⟩
  rw [if_pos (by simp [Region.wanted])]
  refine ⟨v, fun w hs => ?_, h _ (ha.put hd) (by cases d <;> exact hds)⟩
  unfold Oper.quietAtIn
  have hl : l.map a.eval = vs := ha.opvs hc
  rw [show (execOp a.eval ⟨d, .call ⟨.value (.func f), l.toArray, tys⟩, ty, pos, aft, none⟩).run P w = .ok (.enter f vs.toArray) w by
    simp [execOp, resolve, Act.eval, Deferred.ofValue, invoke, hl, hf, Result.andThen]]
  refine ⟨rfl, fun h => by simp [Fence.wide] at h, ?_⟩
  have hcl : CallsIn (fen none) 0 P f vs.toArray w _ := hL w hs
  exact hcl.mono fun e w'' ⟨v', H', he, ⟨hv, hH⟩, hs'⟩ => ⟨by rw [he, hv], by rw [← hH]; exact hs'⟩
/-- the two ways of a condition meet again: what is said of slots and memory behind it -/
def JoinJ (w0 : World) (n : Nat) (ds : List Deferred) (env : Env) (H : Heap) (a : Act) (w : World) : Prop := Agree n env a ∧ a.defers = ds ∧ Sat w0 H w
theorem W_condJ {c : Operand} {x y : Code} {t : Bool} {p : Prop} (env' : Env) (H' : Heap) (hc : opv env c = some (.bool t)) (hp : t = true ↔ p)
    (ht : p → W P rd w0 (fun _ _ _ => False) n ds [.code x, .goal (JoinJ w0 n ds env' H')] env H) (hf : ¬ p → W P rd w0 (fun _ _ _ => False) n ds [.code y, .goal (JoinJ w0 n ds env' H')] env H)
    (h : W P rd w0 Q n ds k env' H') : W P rd w0 Q n ds (.code (.cond c x y) :: k) env H := fun a w ha hd hs => by
  have mono : ∀ z : Code, W P rd w0 (fun _ _ _ => False) n ds [.code z, .goal (JoinJ w0 n ds env' H')] env H → z.wpIn (fen rd) 0 P (Cont P rd Q k) a w := fun z hz => by
    refine wpIn_mono (hz a w ha hd hs) fun e a2 w2 hq => ?_
    cases e with
    | normal => exact h a2 w2 hq.1 hq.2.1 hq.2.2
    | exit id => exact hq.elim
    | goto l => exact hq.elim
    | ret => exact hq.elim
    | panic ch => exact hq.elim
    | outgrown => exact hq.elim
  exact wpIn_cond_split (ha.opv hc) (fun e => mono x (ht (hp.1 e))) (fun e => mono y (hf (fun q => by rw [hp.2 q] at e; cases e)))
theorem W_joined (he : sub env' env) (hh : HSub H H') {k' : List It} : W P rd w0 Q n ds (.goal (JoinJ w0 n ds env' H') :: k') env H := W_goal fun _ _ ha hd hs => ⟨ha.weaken (look_of_sub he), hd, hs.hsub hh⟩
theorem wpIn_scope {F : Fence} {n : Nat} {c : Code} {a : Act} {w : World} {Q : Exit → Act → World → Prop} (hQ : ∀ l a w, Q (.goto l) a w → False) (h : c.wpIn F n P Q a w) : (Code.scope c).wpIn F n P Q a w := by
  intro b k cs hro hb hr
  have s1 : step P (lone (b.atR a (.code (.scope c) :: k)) cs w) = .next (lone (b.atR a (.code c :: .inScope c :: k)) cs w) := step_lone_go (by simp [stepG, stepG.exec, Frame.atR])
  have h0 : (lone (b.atR a (.code (.scope c) :: k)) cs w).fenced P F := fenced_calm hb hr rfl
  have hx : ∀ id, exitTo id (.inScope c :: k) = exitTo id k := fun id => by simp [exitTo]
  obtain ⟨e, a₁, w₁, hq, harr⟩ := h b (.inScope c :: k) cs hro hb hr
  cases e with
  | normal =>
    have s2 : step P (lone (b.atR a₁ (.inScope c :: k)) cs w₁) = .next (lone (b.atR a₁ k) cs w₁) := step_lone_go (by simp [stepG, stepG.exec, Frame.atR])
    exact ⟨.normal, a₁, w₁, hq, .head h0 s1 (StepsIn.trans harr (.one (fenced_calm (fr := b.atR a₁ (.inScope c :: k)) hb hr rfl) s2))⟩
  | exit id =>
    exact ⟨.exit id, a₁, w₁, hq, fun k' hk => .head h0 s1 (harr.1 k' (by rw [hx]; exact hk)),
      fun hr' hk => let ⟨k₁, h1, h2⟩ := harr.2 hr' (by rw [hx]; exact hk); ⟨k₁, h1, .head h0 s1 h2⟩⟩
  | goto l => exact (hQ l a₁ w₁ hq).elim
  | ret => exact ⟨_, a₁, w₁, hq, .of_steps (.one h0 s1) harr⟩
  | panic ch => exact ⟨_, a₁, w₁, hq, .of_steps (.one h0 s1) harr⟩
  | outgrown => exact ⟨_, a₁, w₁, hq, .of_steps (.one h0 s1) harr⟩
theorem cont_goto {l : Nat} : ∀ {k : List It} (a : Act) (w : World), Cont P rd Q k (.goto l) a w → Q (.goto l) a w
  | [], _, _, h => h
  | .blk _ :: k, a, w, h => cont_goto (k := k) a w h
  | .code _ :: k, a, w, h => cont_goto (k := k) a w h
  | .ops _ _ :: k, a, w, h => cont_goto (k := k) a w h
  | .goal _ :: k, a, w, h => cont_goto (k := k) a w h
theorem W_scope {c : Code} (hQ : ∀ l a w, Q (.goto l) a w → False) (h : W P rd w0 Q n ds (.code c :: k) env H) : W P rd w0 Q n ds (.code (.scope c) :: k) env H :=
  fun a w ha hd hs => wpIn_scope (fun l a w hc => hQ l a w (cont_goto a w hc)) (h a w ha hd hs)
theorem W_label {l : Nat} (h : W P rd w0 Q n ds k env H) : W P rd w0 Q n ds (.code (.label l) :: k) env H := fun a w ha hd hs => wpIn_label (h a w ha hd hs)
end
end Go.Sl
