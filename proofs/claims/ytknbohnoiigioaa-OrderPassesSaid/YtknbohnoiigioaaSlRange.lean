/-
  Own work: the small logic, more of its rules; of any program.
-/
import Derived.Test.YtknbohnoiigioaaSlHeap
import Derived.RangeFuncNested
set_option linter.all false
set_option linter.unusedSimpArgs false
set_option linter.unusedVariables false
namespace Go.Sl
open Go.RowKit
theorem LCalls.hsub {P : Program} {w0 : World} {f : FuncId} {args : Array Value} {H H' : Heap} {R : Value → Heap → Prop} (h : LCalls P w0 f args H' R) (hs : HSub H H') : LCalls P w0 f args H R := fun w hw => h w (hw.hsub hs)
theorem Sat.putObj {w0 w : World} {H : Heap} {b : Nat} {o o' : Obj} (h : Sat w0 ((b, .obj o) :: H) w) : Sat w0 ((b, .obj o') :: H) (w.putObj b o') :=
  have hlt : b < w.heap.size := (h.own _ List.mem_cons_self).2.lt
  have hb : w0.heap.size ≤ b := (h.own _ List.mem_cons_self).1
  h.upd (.head H) ⟨rfl, rfl, rfl, by simp, fun k hk => World.putObj_heap_other (by omega)⟩ (fun j hj _ => World.putObj_heap_other hj) (World.putObj_heap_same hlt)
/-! ## The marks that loops over functions leave among the deferred calls -/
abbrev mark (D : Nat) : Deferred := { target := .collected D, args := #[] }
inductive Marks : List Deferred → Heap → Heap → Prop
  | nil (H : Heap) : Marks [] H H
  | cons {D : Nat} {ds : List Deferred} {H H1 H' : Heap} (h : Take (D, .obj (.deferred (some []))) H H1) (hs : Marks ds H1 H') : Marks (mark D :: ds) H H'
theorem leaves_marks {P : Program} {w0 : World} {fn : Func} {R : Value → Heap → Prop} {tmps : Array Value} {v : Value} {ds : List Deferred} {H H' H2 : Heap} (hM : Marks ds H H') (hu : HSub H' H2) : ∀ {w : World}, (∀ w, Sat w0 H' w → (results fn tmps).run P w = .ok v w) → Sat w0 H w → R v H2 →
    LeavesInM Fence.wide 0 P fn tmps (LPost w0 R) ds .returning w := by
  induction hM with
  | nil H => exact fun hr hs hR => ⟨v, hr _ hs, v, H2, rfl, hR, hs.hsub hu⟩
  | @cons D ds H H1 H' h _ ih =>
    intro w hr hs hR
    have hs1 := hs.perm h.perm
    exact ⟨by simp, .inl ⟨D, _, rfl, run_takeDeferred (hs1.own _ List.mem_cons_self).2, ih hu hr (hs1.putObj (o' := .deferred none)).drop hR⟩⟩
section
variable {P : Program} {w0 : World} {fn : Func} {R : Value → Heap → Prop} {n : Nat} {ds : List Deferred} {k : List It} {env : Env} {H H' H2 : Heap}
theorem W_ret0m (hr : fn.results = #[]) (hM : Marks ds H H') (hu : HSub H' H2) (hR : R (.tuple #[]) H2) : W P none w0 (FPost P w0 fn R) n ds (.code .ret :: k) env H :=
  W_ret fun a w ha hd hs => by
    show LeavesInM _ _ _ _ _ _ a.defers _ _
    rw [hd]
    exact leaves_marks hM hu (fun w _ => run_res0 hr) hs hR
theorem W_end0m (hr : fn.results = #[]) (hM : Marks ds H H') (hu : HSub H' H2) (hR : R (.tuple #[]) H2) : W P none w0 (FPost P w0 fn R) n ds [] env H :=
  fun a w ha hd hs => by
    show LeavesInM _ _ _ _ _ _ a.defers _ _
    rw [hd]
    exact leaves_marks hM hu (fun w _ => run_res0 hr) hs hR
theorem W_ret1m {t : Nat} {v : Value} (hr : fn.results = #[.tmp t]) (hv : look env t = some v) (hM : Marks ds H H') (hu : HSub H' H2) (hR : R v H2) : W P none w0 (FPost P w0 fn R) n ds (.code .ret :: k) env H :=
  W_ret fun a w ha hd hs => by
    show LeavesInM _ _ _ _ _ _ a.defers _ _
    rw [hd]
    exact leaves_marks hM hu (fun w _ => run_res1 hr) hs (by rw [ha.val _ _ hv]; exact hR)
theorem W_ret2m {t u : Nat} {v1 v2 : Value} (hr : fn.results = #[.tmp t, .tmp u]) (hv : look env t = some v1) (hv2 : look env u = some v2) (hM : Marks ds H H') (hu : HSub H' H2) (hR : R (.tuple #[v1, v2]) H2) : W P none w0 (FPost P w0 fn R) n ds (.code .ret :: k) env H :=
  W_ret fun a w ha hd hs => by
    show LeavesInM _ _ _ _ _ _ a.defers _ _
    rw [hd]
    exact leaves_marks hM hu (fun w _ => run_res2 hr) hs (by rw [ha.val _ _ hv, ha.val _ _ hv2]; exact hR)
theorem W_ret3m {t u s : Nat} {v1 v2 v3 : Value} (hr : fn.results = #[.tmp t, .tmp u, .tmp s]) (hv : look env t = some v1) (hv2 : look env u = some v2) (hs3 : look env s = some v3) (hM : Marks ds H H') (hu : HSub H' H2) (hR : R (.tuple #[v1, v2, v3]) H2) : W P none w0 (FPost P w0 fn R) n ds (.code .ret :: k) env H :=
  W_ret fun a w ha hd hs => by
    show LeavesInM _ _ _ _ _ _ a.defers _ _
    rw [hd]
    exact leaves_marks hM hu (fun w _ => run_res3 hr) hs (by rw [ha.val _ _ hv, ha.val _ _ hv2, ha.val _ _ hs3]; exact hR)
end
/-- a result that lies in a cell of its own -/
theorem run_res1c {P : Program} {w0 w : World} {fn : Func} {H : Heap} {t ty b i s by_ : Nat} {tmps : Array Value} {td : TypeDesc} {z : Value} {vs : List Value} (hr : fn.results = #[.cell t ty]) (hv : tmps.getD t undef = .pointer (some ⟨b, i, none⟩)) (ht : Ty P ty td s z by_) (hf : flat td = false) (hl : vs.length = s) (hc : Cells w0 H b i vs) (hs : Sat w0 H w) :
    (results fn tmps).run P w = .ok (.agg vs.toArray) w := by
  have hcs := run_loadCells_list (P := P) (w := w) ⟨b, i, none⟩ vs (fun j u hu => by rw [addr_add]; exact hc j u hu w hs)
  rw [hl] at hcs
  have hv' : tmps[t]?.getD undef = .pointer (some ⟨b, i, none⟩) := by rw [← Array.getD_eq_getD_getElem?]; exact hv
  simp [results, hr, hv', asAddr, loadVar, ht.isAgg, ht.size, hf, hcs, Result.andThen]
theorem run_res1c1 {P : Program} {w0 w : World} {fn : Func} {H : Heap} {t ty b i s by_ : Nat} {tmps : Array Value} {td : TypeDesc} {z v : Value} (hr : fn.results = #[.cell t ty]) (hv : tmps.getD t undef = .pointer (some ⟨b, i, none⟩)) (ht : Ty P ty td s z by_) (hf : flat td = true) (hc : Cell w0 H b i v) (hs : Sat w0 H w) :
    (results fn tmps).run P w = .ok v w := by
  have hv' : tmps[t]?.getD undef = .pointer (some ⟨b, i, none⟩) := by rw [← Array.getD_eq_getD_getElem?]; exact hv
  simp [results, hr, hv', asAddr, loadVar, ht.isAgg, hf, hc w hs, Result.andThen]
section
variable {P : Program} {w0 : World} {fn : Func} {R : Value → Heap → Prop} {n : Nat} {ds : List Deferred} {k : List It} {env : Env} {H H' H2 : Heap}
/-- the result's cells are read behind the deferred calls -/
theorem W_ret1c {t ty b i s by_ : Nat} {td : TypeDesc} {z : Value} {vs : List Value} (hr : fn.results = #[.cell t ty]) (hv : look env t = some (.pointer (some ⟨b, i, none⟩))) (hM : Marks ds H H') (ht : Ty P ty td s z by_) (hf : flat td = false) (hl : vs.length = s) (hc : Cells w0 H' b i vs) (hu : HSub H' H2) (hR : R (.agg vs.toArray) H2) : W P none w0 (FPost P w0 fn R) n ds (.code .ret :: k) env H :=
  W_ret fun a w ha hd hs => by
    show LeavesInM _ _ _ _ _ _ a.defers _ _
    rw [hd]
    exact leaves_marks hM hu (fun w hs' => run_res1c hr (ha.val _ _ hv) ht hf hl hc hs') hs hR
theorem W_ret1cO {t ty b s e tot by_ : Nat} {td : TypeDesc} {z : Value} {vs : List Value} (hr : fn.results = #[.cell t ty]) (hv : look env t = some (.pointer (some ⟨b, 0, none⟩))) (hM : Marks ds H H') (ht : Ty P ty td s z by_) (hf : flat td = false) (hm : (b, Blk.cells e tot vs) ∈ H') (hl : vs.length = s) (hu : HSub H' H2) (hR : R (.agg vs.toArray) H2) : W P none w0 (FPost P w0 fn R) n ds (.code .ret :: k) env H :=
  W_ret1c hr hv hM ht hf hl (Cells.own hm (by simp)) hu hR
theorem W_ret1c1 {t ty b i s by_ : Nat} {td : TypeDesc} {z v : Value} (hr : fn.results = #[.cell t ty]) (hv : look env t = some (.pointer (some ⟨b, i, none⟩))) (hM : Marks ds H H') (ht : Ty P ty td s z by_) (hf : flat td = true) (hc : Cell w0 H' b i v) (hu : HSub H' H2) (hR : R v H2) : W P none w0 (FPost P w0 fn R) n ds (.code .ret :: k) env H :=
  W_ret fun a w ha hd hs => by
    show LeavesInM _ _ _ _ _ _ a.defers _ _
    rw [hd]
    exact leaves_marks hM hu (fun w hs' => run_res1c1 hr (ha.val _ _ hv) ht hf hc hs') hs hR
end
/-! ## A round of a loop over a function -/
def RoundC (P : Program) (w0 : World) (l : Nat) (args : Array Value) (H : Heap) (R : Value → Heap → Prop) : Prop := ∀ w, Sat w0 H w → YieldAt Fence.wide 0 P l args w (LPost w0 R)
theorem RoundC.hsub {P : Program} {w0 : World} {l : Nat} {args : Array Value} {H H' : Heap} {R : Value → Heap → Prop} (h : RoundC P w0 l args H' R) (hs : HSub H H') : RoundC P w0 l args H R := fun w hw => h w (hw.hsub hs)
theorem RoundC.mono {P : Program} {w0 : World} {l : Nat} {args : Array Value} {H : Heap} {R R' : Value → Heap → Prop} (h : RoundC P w0 l args H R) (hr : ∀ v H', R v H' → R' v H') : RoundC P w0 l args H R' := fun w hw => by
  obtain ⟨fn, tmps, a, b, h1, h2⟩ := h w hw
  exact ⟨fn, tmps, a, b, h1, h2.mono fun _ _ ⟨v, H', e, r, s⟩ => ⟨v, H', e, hr _ _ r, s⟩⟩
/-- the record when a round has ended -/
abbrev Loop.at (r : Loop) (s : LoopState) (p : Option Code) : Loop := { r with state := s, pending := p }
theorem loop_ready {r : Loop} (h1 : r.state = .ready) (h2 : r.pending = none) : Loop.at r .ready none = r := by cases r; simp_all [Loop.at]
def RoundQ (P : Program) (w0 : World) (l : Nat) (r : Loop) (R : Value → Heap → Prop) : Exit → Act → World → Prop
  | .normal, _, w => ∃ H, Sat w0 ((l, .obj (.loop (Loop.at r .busy none))) :: H) w ∧ R (.bool true) ((l, .obj (.loop (Loop.at r .ready none))) :: H)
  | .ret, _, w => ∃ H, Sat w0 ((l, .obj (.loop (Loop.at r .busy none))) :: H) w ∧ R (.bool false) ((l, .obj (.loop (Loop.at r .done (some .ret)))) :: H)
  | .exit id, _, w => ∃ H, Sat w0 ((l, .obj (.loop (Loop.at r .busy none))) :: H) w ∧ R (.bool false) ((l, .obj (.loop (Loop.at r .done (some (.exit id))))) :: H)
  | .goto t, _, w => ∃ H, Sat w0 ((l, .obj (.loop (Loop.at r .busy none))) :: H) w ∧ R (.bool false) ((l, .obj (.loop (Loop.at r .done (some (.goto t))))) :: H)
  | .panic _, _, _ => False
  | .outgrown, _, _ => False
theorem roundPost_of {P : Program} {w0 : World} {l : Nat} {r : Loop} {R : Value → Heap → Prop} {e : Exit} {a : Act} {w : World} (h : RoundQ P w0 l r R e a w) : roundPost P l (LPost w0 R) e a w := by
  have go : ∀ (j : Option Code) (H : Heap), Sat w0 ((l, .obj (.loop (Loop.at r .busy none))) :: H) w → R (.bool j.isNone) ((l, .obj (.loop (Loop.at r (if j.isNone then .ready else .done) j))) :: H) → ∃ v w', (Instr.endRound l j).run P w = .ok v w' ∧ LPost w0 R (.returned v) w' := fun j H hs hR =>
    ⟨_, _, run_endRound j (hs.own _ List.mem_cons_self).2, _, _, rfl, hR, hs.putObj⟩
  cases e with
  | normal => obtain ⟨H, hs, hR⟩ := h; exact go none H hs hR
  | ret => obtain ⟨H, hs, hR⟩ := h; exact go (some .ret) H hs hR
  | exit id => obtain ⟨H, hs, hR⟩ := h; exact go (some (.exit id)) H hs hR
  | goto t => obtain ⟨H, hs, hR⟩ := h; exact go (some (.goto t)) H hs hR
  | panic c => exact h.elim
  | outgrown => exact h.elim
/-- yield's arguments laid into the loop's parameters -/
def envPut : List Nat → List Value → Env → Env
  | p :: ps, v :: vs, env => envPut ps vs ((p, v) :: env)
  | _, _, env => env
theorem agree_envPut {n : Nat} : ∀ (ps : List Nat) (vs : List Value) (env : Env) (a : Act), Agree n env a → ps.all (fun p => Nat.blt p n) = true → Agree n (envPut ps vs env) { a with tmps := (ps.zip vs).foldl (fun t (p, v) => t.setIfInBounds p v) a.tmps }
  | [], _, _, _, h, _ => h
  | _ :: _, [], _, _, h, _ => h
  | p :: ps, v :: vs, env, a, h, hp => by
    simp only [List.all_cons, Bool.and_eq_true] at hp
    have h1 : Agree n ((p, v) :: env) (a.put (some p) v) := h.put (d := some p) (by simpa [dok] using hp.1)
    have h2 := agree_envPut ps vs ((p, v) :: env) (a.put (some p) v) h1 hp.2
    simpa [envPut, Act.put] using h2
/-- the round's beginning, behind the assignment -/
def beginJ (P : Program) (w0 : World) (l : Nat) (r : Loop) (R : Value → Heap → Prop) (a : Act) (w : World) : Prop :=
  ∃ w₂, (Instr.beginRound l).run P w = .ok () w₂ ∧ r.body.wpIn (fen (some l)) 0 P (RoundQ P w0 l r R) a w₂
theorem round_intro {P : Program} {w0 : World} {l : Nat} {r : Loop} {args : Array Value} {H H1 : Heap} {R : Value → Heap → Prop} {n : Nat} {env env' : Env} {vs : List Value} {ps : List Nat} {ca : Code} (hst : r.state = .ready) (hp : r.pending = none)
    (hA : Agree n env { tmps := r.tmps, defers := [] }) (hps : r.params = ps.toArray) (hvs : args = vs.toArray) (hca : r.assign = ca) (hlen : vs.length = ps.length) (hn : ps.all (fun p => Nat.blt p n) = true) (he : envPut ps vs env = env') (hT : Take (l, .obj (.loop r)) H H1)
    (h : W P (some l) w0 (fun _ _ _ => False) n [] [.code ca, .goal (beginJ P w0 l r R)] env' H) : RoundC P w0 l args H R := by
  intro w hs
  have hl : w.heap[l]? = some (.loop r) := (hs.own _ hT.mem).2
  have hy := run_yield (P := P) (args := args) hl (by rw [hps, hvs]; simpa using hlen)
  refine ⟨_, _, _, _, hy, roundIn_of_wpIn (F := Fence.wide) trivial ?_⟩
  have hA' := agree_envPut ps vs env _ hA hn
  rw [he] at hA'
  have hW := h _ w (by
    have e1 : ({ tmps := ((r.params.zip args).foldl (fun t (x : Nat × Value) => t.setIfInBounds x.1 x.2) r.tmps), defers := [] } : Act) = { tmps := (ps.zip vs).foldl (fun t (x : Nat × Value) => t.setIfInBounds x.1 x.2) r.tmps, defers := [] } := by
      rw [hps, hvs]; simp
    exact e1 ▸ hA') rfl hs
  subst hca
  refine wpIn_mono hW fun e a2 w2 hq => ?_
  cases e with
  | normal =>
    obtain ⟨w3, h1, h2⟩ := hq
    exact ⟨w3, h1, wpIn_mono h2 fun _ _ _ hq => roundPost_of hq⟩
  | exit id => exact hq
  | goto l => exact hq
  | ret => exact hq
  | panic ch => exact hq
  | outgrown => exact hq.elim
section
variable {P : Program} {rd : Option Nat} {w0 : World} {Q : Exit → Act → World → Prop} {n : Nat} {ds : List Deferred} {k : List It} {env env' : Env} {H H1 H' : Heap} {all : Array Oper} {rest : List Oper}
theorem W_begin {l : Nat} {r : Loop} {R : Value → Heap → Prop} {cb : Code} (hst : r.state = .ready) (hp : r.pending = none) (hT : Take (l, .obj (.loop r)) H H1) (hcb : r.body = cb)
    (h : W P (some l) w0 (RoundQ P w0 l r R) n ds [.code cb] env ((l, .obj (.loop (Loop.at r .busy none))) :: H1)) : W P (some l) w0 (fun _ _ _ => False) n ds [.goal (beginJ P w0 l r R)] env H := by
  refine W_goal fun a w ha hd hs => ?_
  have hs1 := hs.perm hT.perm
  refine ⟨_, run_beginRound (hs1.own _ List.mem_cons_self).2 hst, ?_⟩
  subst hcb
  have e : ({ r with state := .busy } : Loop) = Loop.at r .busy none := by rw [← hp]
  rw [e]
  refine wpIn_mono (h a _ ha hd hs1.putObj) fun e a2 w2 hq => ?_
  cases e <;> exact hq
theorem W_endround {l : Nat} {r : Loop} {R : Value → Heap → Prop} (hT : Take (l, .obj (.loop (Loop.at r .busy none))) H H1) (hR : R (.bool true) ((l, .obj (.loop (Loop.at r .ready none))) :: H1)) : W P (some l) w0 (RoundQ P w0 l r R) n ds [] env H :=
  fun _ _ _ _ hs => ⟨H1, hs.perm hT.perm, hR⟩
theorem W_retround {l : Nat} {r : Loop} {R : Value → Heap → Prop} (hT : Take (l, .obj (.loop (Loop.at r .busy none))) H H1) (hR : R (.bool false) ((l, .obj (.loop (Loop.at r .done (some .ret)))) :: H1)) : W P (some l) w0 (RoundQ P w0 l r R) n ds (.code .ret :: k) env H :=
  W_ret fun _ _ _ _ hs => ⟨H1, hs.perm hT.perm, hR⟩
theorem cont_exit_none {id : Nat} : ∀ {k : List It}, exitK id k = none → ∀ a w, Q (.exit id) a w → Cont P rd Q k (.exit id) a w
  | [], _, a, w, hq => hq
  | .blk i :: k, h, a, w, hq => by
    simp only [exitK] at h
    by_cases hi : i = id
    · rw [if_pos hi] at h; cases h
    · rw [if_neg hi] at h
      have : ¬ id = i := fun e => hi e.symm
      simp [Cont, Exit.inBlock, this, cont_exit_none h a w hq]
  | .code c :: k, h, a, w, hq => cont_exit_none (k := k) h a w hq
  | .ops _ _ :: k, h, a, w, hq => cont_exit_none (k := k) h a w hq
  | .goal _ :: k, h, a, w, hq => cont_exit_none (k := k) h a w hq
theorem W_exitround {l id : Nat} {r : Loop} {R : Value → Heap → Prop} (he : exitK id k = none) (hT : Take (l, .obj (.loop (Loop.at r .busy none))) H H1) (hR : R (.bool false) ((l, .obj (.loop (Loop.at r .done (some (.exit id))))) :: H1)) : W P (some l) w0 (RoundQ P w0 l r R) n ds (.code (.exit id) :: k) env H :=
  fun a w _ _ hs => wpIn_exit (cont_exit_none he a w ⟨H1, hs.perm hT.perm, hR⟩)
/-- yield called -/
theorem W_yield {d : Option Nat} {x : Operand} {l : List Operand} {vs : List Value} {lp : Nat} {tys : Array TypeId} {t : TypeId} {pos : String} {aft : Array Edge} {R : Value → Heap → Prop} (hx : opv env x = some (.func (.yield lp) #[] #[])) (hc : OpVs env l vs) (hd : dok n d = true)
    (hL : RoundC P w0 lp vs.toArray H R) (h : ∀ v H', R v H' → W P rd w0 Q n ds (.ops all rest :: k) (put d v env) H') :
    W P rd w0 Q n ds (.ops all (⟨d, .call ⟨.value x, l.toArray, tys⟩, t, pos, aft, none⟩ :: rest) :: k) env H := by
  intro a w ha hds hs
  show wpListIn (fen rd) 0 P all (Cont P rd Q k) (⟨d, .call ⟨.value x, l.toArray, tys⟩, t, pos, aft, none⟩ :: rest) a w
  unfold wpListIn
  rw [if_pos (by simp [Region.wanted])]
  refine ⟨fun _ _ => trivial, ?_⟩
  obtain ⟨fn, tmps, asg, body, hy, hrd⟩ := hL w hs
  have hl : l.map a.eval = vs := ha.opvs hc
  rw [Oper.semAt_eq _ _ _ (fun _ h => by cases h), show (execOp a.eval ⟨d, .call ⟨.value x, l.toArray, tys⟩, t, pos, aft, none⟩).run P w = .ok (.round lp fn tmps asg body) w by
    simp [execOp, resolve, ha.opv hx, Deferred.ofValue, invoke, hl, hy, Result.andThen], Oper.uponIn_round]
  refine ⟨fun h => by simp [Fence.wide] at h, ?_⟩
  have hrd' : RoundIn (fen rd) 0 P lp fn tmps asg body w _ := hrd
  refine hrd'.mono ?_
  rintro e w' ⟨v, H', rfl, hR, hs'⟩
  exact h v H' hR (a.put d v) w' (ha.put hd) (by cases d <;> exact hds) hs'
/-- THE STATEMENT, at an outermost loop -/
theorem W_rangeFunc {g : Operand} {ps : Array Nat} {assign body : Code} {gf : FuncId} {lb : Array Value} (hg : opv env g = some (.func (.func gf) #[] lb)) (eg : ∀ (args : Array Value) (w : World), (callFunc gf args).run P w = .ok (.enter gf args) w)
    (hcall : ∀ (l D : Nat) (r : Loop), r.state = .ready → r.pending = none → r.params = ps → r.assign = assign → r.body = body → Agree n env { tmps := r.tmps, defers := [] } →
      LCalls P w0 gf (#[.func (.yield l) #[] #[]] ++ lb) ((l, .obj (.loop r)) :: (D, .obj (.deferred (some []))) :: H)
        (fun _ H' => ∃ st pend H1, HSub H' ((l, .obj (.loop (Loop.at r st pend))) :: H1) ∧ st ≠ .busy ∧ W P none w0 Q n (mark D :: ds) (match pend with | none => k | some c => .code c :: k) env H1)) :
    W P none w0 Q n ds (.code (.rangeFunc g ps assign body) :: k) env H := by
  intro a w ha hd hs
  show (Code.rangeFunc g ps assign body).wpIn (fen none) 0 P (Cont P none Q k) a w
  refine wpIn_rangeFunc fun fn _ => ?_
  have hs1 : Sat w0 ((w.heap.size, .obj (.deferred (some []))) :: H) (w.alloc (.deferred (some []))) := hs.alloc _ (At.alloc_obj _ _)
  have hs2 := hs1.alloc (.loop { state := .ready, pending := none, fn, tmps := a.tmps, params := ps, assign, body, defers := w.heap.size }) (At.alloc_obj _ _)
  rw [World.size_alloc] at hs2
  have hent := run_enterLoop_outer (P := P) (w := w) fn a.tmps ps assign body
  generalize hW1 : (w.alloc (.deferred (some []))).alloc (.loop { state := .ready, pending := none, fn, tmps := a.tmps, params := ps, assign, body, defers := w.heap.size }) = W1 at hs2 hent
  refine ⟨w.heap.size + 1, [mark w.heap.size], W1, { target := .fn (.func gf) lb, args := #[.func (.yield (w.heap.size + 1)) #[] #[]] }, W1, gf, #[.func (.yield (w.heap.size + 1)) #[] #[]] ++ lb, W1, hent, ?_, fun _ _ => trivial, ?_, fun h => by simp [Fence.wide] at h, ?_⟩
  · have hev : ∀ v, a.eval (.const v) = v := fun _ => rfl
    simp [resolve, ha.opv hg, hev, Deferred.ofValue, Result.andThen]
  · simp [invoke, eg, Result.andThen]
  · have hc : CallsIn (fen none) 0 P gf _ _ _ := hcall (w.heap.size + 1) w.heap.size { state := .ready, pending := none, fn, tmps := a.tmps, params := ps, assign, body, defers := w.heap.size } rfl rfl rfl rfl rfl ⟨ha.size, ha.val⟩ _ hs2
    refine hc.mono ?_
    rintro e w' ⟨v, H', rfl, ⟨st, pend, H1, hT, hst, hW⟩, hs'⟩
    have hs3 := hs'.hsub hT
    have hag : Agree n env { a with defers := mark w.heap.size :: a.defers } := ⟨ha.size, ha.val⟩
    refine ⟨pend, _, run_endLoop (hs3.own _ List.mem_cons_self).2 hst, ?_⟩
    cases pend with
    | none => exact hW { a with defers := mark w.heap.size :: a.defers } _ hag (by rw [hd]) (hs3.putObj (o' := .loop { Loop.at _ st none with state := .exhausted })).drop
    | some c =>
      refine wpIn_mono (hW { a with defers := mark w.heap.size :: a.defers } _ hag (by rw [hd]) (hs3.putObj (o' := .loop { Loop.at _ st (some c) with state := .exhausted })).drop) fun e a2 w2 hq => ?_
      cases e <;> exact hq
/-- THE STATEMENT, within a round -/
theorem W_rangeFuncIn {l0 : Nat} {r0 : Loop} {g : Operand} {ps : Array Nat} {assign body : Code} {gf : FuncId} {lb : Array Value} (hg : opv env g = some (.func (.func gf) #[] lb)) (eg : ∀ (args : Array Value) (w : World), (callFunc gf args).run P w = .ok (.enter gf args) w)
    (h0 : (l0, Blk.obj (.loop r0)) ∈ H)
    (hcall : ∀ (l : Nat) (r : Loop), r.state = .ready → r.pending = none → r.params = ps → r.assign = assign → r.body = body → Agree n env { tmps := r.tmps, defers := [] } →
      LCalls P w0 gf (#[.func (.yield l) #[] #[]] ++ lb) ((l, .obj (.loop r)) :: H)
        (fun _ H' => ∃ st pend H1, HSub H' ((l, .obj (.loop (Loop.at r st pend))) :: H1) ∧ st ≠ .busy ∧ W P (some l0) w0 Q n ds (match pend with | none => k | some c => .code c :: k) env H1)) :
    W P (some l0) w0 Q n ds (.code (.rangeFunc g ps assign body) :: k) env H := by
  intro a w ha hd hs
  show (Code.rangeFunc g ps assign body).wpIn (fen (some l0)) 0 P (Cont P (some l0) Q k) a w
  refine wpIn_rangeFunc fun fn _ => ?_
  have hl0 : w.heap[l0]? = some (.loop r0) := (hs.own _ h0).2
  have hs2 := hs.alloc (.loop { state := .ready, pending := none, fn, tmps := a.tmps, params := ps, assign, body, defers := r0.defers }) (At.alloc_obj _ _)
  have hent := run_enterLoop_inner (P := P) hl0 fn a.tmps ps assign body
  generalize hW1 : w.alloc (.loop { state := .ready, pending := none, fn, tmps := a.tmps, params := ps, assign, body, defers := r0.defers }) = W1 at hs2 hent
  refine ⟨w.heap.size, [], W1, { target := .fn (.func gf) lb, args := #[.func (.yield (w.heap.size)) #[] #[]] }, W1, gf, #[.func (.yield (w.heap.size)) #[] #[]] ++ lb, W1, hent, ?_, fun _ _ => trivial, ?_, fun h => by simp [Fence.wide] at h, ?_⟩
  · have hev : ∀ v, a.eval (.const v) = v := fun _ => rfl
    simp [resolve, ha.opv hg, hev, Deferred.ofValue, Result.andThen]
  · simp [invoke, eg, Result.andThen]
  · have hc : CallsIn (fen (some l0)) 0 P gf _ _ _ := hcall w.heap.size { state := .ready, pending := none, fn, tmps := a.tmps, params := ps, assign, body, defers := r0.defers } rfl rfl rfl rfl rfl ⟨ha.size, ha.val⟩ _ hs2
    refine hc.mono ?_
    rintro e w' ⟨v, H', rfl, ⟨st, pend, H1, hT, hst, hW⟩, hs'⟩
    have hs3 := hs'.hsub hT
    have hag : Agree n env { a with defers := [] ++ a.defers } := ⟨ha.size, ha.val⟩
    refine ⟨pend, _, run_endLoop (hs3.own _ List.mem_cons_self).2 hst, ?_⟩
    cases pend with
    | none => exact hW { a with defers := [] ++ a.defers } _ hag (by simpa using hd) (hs3.putObj (o' := .loop { Loop.at _ st none with state := .exhausted })).drop
    | some c =>
      refine wpIn_mono (hW { a with defers := [] ++ a.defers } _ hag (by simpa using hd) (hs3.putObj (o' := .loop { Loop.at _ st (some c) with state := .exhausted })).drop) fun e a2 w2 hq => ?_
      cases e <;> exact hq
/-- a loop whose rounds lay marks: the deferred calls are part of the state -/
theorem W_loopD {X : Type} {c : Code} (E : X → Env) (DS : X → List Deferred) (HH : X → Heap) (I : X → Prop) (μ : X → Nat) (x0 : X) (h0 : I x0) (he : sub (E x0) env) (hd0 : ds = DS x0) (hh : HSub H (HH x0))
    (round : ∀ x, I x → W P rd w0 Q n (DS x) (.code c :: .goal (fun a w => ∃ x', I x' ∧ μ x' < μ x ∧ Agree n (E x') a ∧ a.defers = DS x' ∧ Sat w0 (HH x') w) :: k) (E x) (HH x)) :
    W P rd w0 Q n ds (.code (.loop c) :: k) env H := by
  intro a w ha hd hs
  subst hd0
  refine wpIn_loop_ghost (fun m a' w' => ∃ x, μ x = m ∧ I x ∧ Agree n (E x) a' ∧ a'.defers = DS x ∧ Sat w0 (HH x) w') (μ x0) ⟨x0, rfl, h0, ha.weaken (look_of_sub he), hd, hs.hsub hh⟩ ?_
  rintro m a' w' ⟨x, rfl, hI, hA, hD, hS⟩
  refine wpIn_mono (round x hI a' w' hA hD hS) fun e a2 w2 hq => ?_
  cases e with
  | normal =>
    obtain ⟨x', h1, h2, h3, h4, h5⟩ := hq
    exact ⟨μ x', h2, x', rfl, h1, h3, h4, h5⟩
  | exit id => exact hq
  | goto l => exact hq
  | ret => exact hq
  | panic ch => exact hq
  | outgrown => exact hq
/-- a loop's round is over -/
theorem W_again {X : Type} {E : X → Env} {DS : X → List Deferred} {HH : X → Heap} {I : X → Prop} {μ : X → Nat} {m : Nat} (x' : X) (h1 : I x') (h2 : μ x' < m) (he : sub (E x') env) (hd : ds = DS x') (hh : HSub H (HH x')) :
    W P rd w0 Q n ds (.goal (fun a w => ∃ x', I x' ∧ μ x' < m ∧ Agree n (E x') a ∧ a.defers = DS x' ∧ Sat w0 (HH x') w) :: k) env H :=
  W_goal fun _ _ ha hd' hs => ⟨x', h1, h2, ha.weaken (look_of_sub he), hd'.trans hd, hs.hsub hh⟩
end
end Go.Sl
