/-
  Own work: a small logic for walking through a function's code: facts on slots, owned blocks of memory, and its rules; of any program.
-/
import Derived.Test.YtcggkokeggfdkaaGreatDoorKpS1
import Derived.Laws.Cover3
import Derived.Laws.IdiomStrings
import Derived.ChangeKeysEq
import Derived.Deep.Slices
import Derived.OpenShut
import Derived.Maps.RangeRun
import Derived.WideLaws
set_option linter.all false
set_option linter.unusedSimpArgs false
set_option linter.unusedVariables false
namespace Go.Sl
open Go.RowKit
section
variable {P:Program} {w0:World} {H H':qg}
theorem qh.up {b i:Nat} {v:Value} (h:qh w0 H b i v) (hs:qd H' H):qh w0 H' b i v:=fun w hw=>h w (hw.hsub hs)
theorem zP.up {b i:Nat} {vs:List Value} (h:zP w0 H b i vs) (hs:qd H' H):zP w0 H' b i vs:=fun j v hv=>(h j v hv).up hs
theorem qq.up {ad:Option Addr} {l:List Value} (h:qq w0 H ad l) (hs:qd H' H):qq w0 H' ad l:=fun j x hx=>by
  obtain ⟨b,o,e,hc⟩:=h j x hx
  exact ⟨b,o,e,hc.up hs⟩
theorem qq.take {ad:Option Addr} {l:List Value} (h:qq w0 H ad l) (k:Nat):qq w0 H ad (l.take k):=fun j x hx=>h j x (by
  rw [List.getElem?_take] at hx
  split at hx
  · exact hx
  · cases hx)
theorem qq.old {ad:Option Addr} {l:List Value} (h:∀ (j:Nat) x,l[j]?=some x→∃ b o,ad=some ⟨b,o,none⟩∧w0.cell? ⟨b,o+j,none⟩=some x):qq w0 H ad l:=fun j x hx=>by
  obtain ⟨b,o,e,hc⟩:=h j x hx
  exact ⟨b,o,e,qh.old hc⟩
theorem qq.at {ad:Option Addr} {l:List Value} {i:Nat} {v:Value} (h:qq w0 H ad l) (hv:l[i]?=some v):∃ b o,ad=some ⟨b,o,none⟩∧qh w0 H b (o+i) v:=h i v hv
theorem Xk {α:Type} {f:α→List Value} {s:Nat} (hf:∀ x,(f x).length=s):∀ {l:List α} {i:Nat} {x:α},l[i]?=some x→∀ j v,(f x)[j]?=some v→(l.flatMap f)[i*s+j]?=some v
  | [],_,_,h,_,_,_=>by simp at h
  | y::l,0,x,h,j,v,hv=>by
    have:y=x:=by simpa using h
    subst this
    rw [List.flatMap_cons,List.getElem?_append_left (by rw [Nat.zero_mul,Nat.zero_add]; exact (List.getElem?_eq_some_iff.1 hv).1)]
    simpa using hv
  | y::l,i+1,x,h,j,v,hv=>by
    have ih:=Xk hf (l:=l) (i:=i) (by simpa using h) j v hv
    rw [List.flatMap_cons,List.getElem?_append_right (by rw [hf,Nat.add_mul]; omega),hf,show (i+1)*s+j-s=i*s+j by rw [Nat.add_mul]; omega]
    exact ih
theorem Za {α:Type} {f:α→List Value} {s:Nat} (hf:∀ x,(f x).length=s):∀ l:List α,(l.flatMap f).length=l.length*s
  | []=>by simp
  | x::l=>by rw [List.flatMap_cons,List.length_append,hf,Za hf l,List.length_cons,Nat.add_mul]; omega
theorem qq.row {α:Type} {f:α→List Value} {s:Nat} (hf:∀ x,(f x).length=s) (hs:0<s) {ad:Option Addr} {l:List α} {i:Nat} {x:α} (h:qq w0 H ad (l.flatMap f)) (hx:l[i]?=some x):∃ b o,ad=some ⟨b,o,none⟩∧zP w0 H b (o+i*s) (f x):=by
  have h0:0<(f x).length:=by rw [hf]; exact hs
  obtain ⟨b,o,e,_⟩:=h _ _ (Xk hf hx 0 _ (List.getElem?_eq_getElem h0))
  subst e
  refine ⟨b,o,rfl,fun j v hv=>?_⟩
  obtain ⟨b',o',e',hc⟩:=h _ _ (Xk hf hx j v hv)
  cases e'
  rw [Nat.add_assoc]; exact hc
theorem qq.of_own {e:TypeId} {s:Nat} {v:Value} {n:Nat} {xs:List Value} {HB:qg} (h:qQ e s v n xs HB) (hm:∀ p∈HB,p∈H):∃ ad cap,v=.slice ad n cap∧n≤cap∧cap≤maxLen∧qq w0 H ad xs:=by
  cases h with
  | nil=>exact ⟨none,0,rfl,Nat.le_refl _,Nat.zero_le _,qq.nil⟩
  | own h1 h2 h3=>exact ⟨_,_,rfl,h2,h3,qq.own (hm _ List.mem_cons_self)⟩
def qR (P:Program) (w0:World) (H:qg) (f:FuncId) (args:List Value) (v:Value):Prop:=qt P w0 f args.toArray H (fun v' H'=>v'=v∧H'=H)
theorem Qc.at {T:World→Prop} {f:FuncId} {args:List Value} {v:Value} (h:Qc P T f args v) (hT:T w0):qR P w0 H f args v:=h w0 H hT
end
section
variable {P:Program} {rd:Option Nat} {w0:World} {Q:Exit→Act→World→Prop} {n:Nat} {ds:List Deferred} {k:List It} {env env':Env} {H H':qg} {all:Array Oper} {rest:List Oper}
variable {x y c:Operand} {t u ty:TypeId} {pos:String} {aft:Array Edge} {v:Value}
theorem Kd {a:Act} (ha:qL n env a) {j dj:Nat} (hj:(all[j]?).bind (·.dst)=some dj) (ht:look env dj=some undef):yielded all a.tmps j=none:=by
  have hv:=ha.val _ _ ht
  unfold yielded
  rw [hj]
  simp only [Option.bind_some]
  rcases Nat.lt_or_ge dj a.tmps.size with h | h
  · rw [Array.getD_eq_getD_getElem?,Array.getElem?_eq_getElem h] at hv
    rw [Array.getElem?_eq_getElem h]
    simp only [Option.getD_some] at hv
    rw [hv]; rfl
  · rw [Array.getElem?_eq_none h]
theorem Qb {d:Option Nat} {op:Op} {aft:Array Edge} {j:Nat} {b:Bool} {dj:Nat} (hj:(all[j]?).bind (·.dst)=some dj) (ht:look env dj=some undef) (hd:dok n d=true)
    (h:W P rd w0 Q n ds (.ops all rest::k) (put d undef env) H):W P rd w0 Q n ds (.ops all (⟨d,op,t,pos,aft,some (j,b)⟩::rest)::k) env H:=by
  intro a w ha hds hs
  have hy:=Kd ha hj ht
  show wpListIn (fen rd) 0 P all (zC P rd Q k) (_::rest) a w
  unfold wpListIn
  rw [if_neg (by simp [Region.wanted,hy])]
  exact ⟨fun _ _=>trivial,h (a.put d undef) w (ha.put hd) (by cases d <;> exact hds) hs⟩
theorem q9 {d:Option Nat} {f:FuncId} {l:List Operand} {vs:List Value} {tys:Array TypeId} (hc:Zk env l vs) (hf:∀ (args:Array Value) (w:World),(callFunc f args).run P w=.ok (.enter f args) w) (hd:dok n d=true)
    (hL:qR P w0 H f vs v) (h:W P rd w0 Q n ds (.ops all rest::k) (put d v env) H) :
    W P rd w0 Q n ds (.ops all (⟨d,.call ⟨.value (.func f),l.toArray,tys⟩,t,pos,aft,none⟩::rest)::k) env H :=
  qu hc hf hd hL (by rintro v' H' ⟨rfl,rfl⟩; exact h)
theorem qaP {d:Option Nat} {f:FuncId} {l:List Operand} {vs args:List Value} {fa ca:List Value} {tys:Array TypeId} (hx:opv env x=some (.func (.func f) fa.toArray ca.toArray)) (hc:Zk env l vs) (ha:fa++vs++ca=args) (hf:∀ (args:Array Value) (w:World),(callFunc f args).run P w=.ok (.enter f args) w) (hd:dok n d=true)
    (hL:qR P w0 H f args v) (h:W P rd w0 Q n ds (.ops all rest::k) (put d v env) H) :
    W P rd w0 Q n ds (.ops all (⟨d,.call ⟨.value x,l.toArray,tys⟩,t,pos,aft,none⟩::rest)::k) env H:=by
  subst ha
  refine qct hx hc hf hd (R:=fun v' H'=>v'=v∧H'=H) ?_ (by rintro v' H' ⟨rfl,rfl⟩; exact h)
  have:=hL
  unfold qR at this
  simpa using this
theorem qfh {ops:Array Oper} {f:FuncId} {l:List Operand} {vs:List Value} {d:Option Nat} {tys:Array TypeId} (hc:Zk env l vs) (hf:∀ (args:Array Value) (w:World),(callFunc f args).run P w=.ok (.enter f args) w) (hd:dok n d=true)
    (hL:qR P w0 H f vs v) (h:WQ P w0 Q n ds k ops rest (put d v env) H) :
    WQ P w0 Q n ds k ops (⟨d,.call ⟨.value (.func f),l.toArray,tys⟩,ty,pos,aft,none⟩::rest) env H:=fun a ha hds=>by
  refine ⟨fun _ _ _ _=>trivial,?_⟩
  rw [if_pos (by simp [Region.wanted])]
  refine ⟨v,fun w hs=>?_,h _ (ha.put hd) (by cases d <;> exact hds)⟩
  unfold Oper.quietAtIn
  have hl:l.map a.eval=vs:=ha.opvs hc
  rw [show (execOp a.eval ⟨d,.call ⟨.value (.func f),l.toArray,tys⟩,ty,pos,aft,none⟩).run P w=.ok (.enter f vs.toArray) w by
    simp [execOp,resolve,Act.eval,Deferred.ofValue,invoke,hl,hf,Result.andThen]]
  refine ⟨rfl,fun h=>by simp [Fence.wide] at h,?_⟩
  have hcl:CallsIn (fen none) 0 P f vs.toArray w _:=hL w hs
  exact hcl.mono fun e w'' ⟨v',H',he,⟨hv,hH⟩,hs'⟩=>⟨by rw [he,hv],by rw [← hH]; exact hs'⟩
def qcD (w0:World) (n:Nat) (ds:List Deferred) (env:Env) (H:qg) (a:Act) (w:World):Prop:=qL n env a∧a.defers=ds∧Sat w0 H w
theorem qgU {c:Operand} {x y:Code} {t:Bool} {p:Prop} (env':Env) (H':qg) (hc:opv env c=some (.bool t)) (hp:t=true↔p)
    (ht:p→W P rd w0 (fun _ _ _=>False) n ds [.code x,.goal (qcD w0 n ds env' H')] env H) (hf:¬ p→W P rd w0 (fun _ _ _=>False) n ds [.code y,.goal (qcD w0 n ds env' H')] env H)
    (h:W P rd w0 Q n ds k env' H'):W P rd w0 Q n ds (.code (.cond c x y)::k) env H:=fun a w ha hd hs=>by
  have mono:∀ z:Code,W P rd w0 (fun _ _ _=>False) n ds [.code z,.goal (qcD w0 n ds env' H')] env H→z.wpIn (fen rd) 0 P (zC P rd Q k) a w:=fun z hz=>by
    refine wpIn_mono (hz a w ha hd hs) fun e a2 w2 hq=>?_
    cases e with
    | normal=>exact h a2 w2 hq.1 hq.2.1 hq.2.2
    | exit id=>exact hq.elim
    | goto l=>exact hq.elim
    | ret=>exact hq.elim
    | panic ch=>exact hq.elim
    | outgrown=>exact hq.elim
  exact wpIn_cond_split (ha.opv hc) (fun e=>mono x (ht (hp.1 e))) (fun e=>mono y (hf (fun q=>by rw [hp.2 q] at e; cases e)))
theorem qaO (he:sub env' env) (hh:qd H H') {k':List It}:W P rd w0 Q n ds (.goal (qcD w0 n ds env' H')::k') env H:=YP fun _ _ ha hd hs=>⟨ha.weaken (Z7 he),hd,hs.hsub hh⟩
theorem Xn {F:Fence} {n:Nat} {c:Code} {a:Act} {w:World} {Q:Exit→Act→World→Prop} (hQ:∀ l a w,Q (.goto l) a w→False) (h:c.wpIn F n P Q a w):(Code.scope c).wpIn F n P Q a w:=by
  intro b k cs hro hb hr
  have s1:step P (lone (b.atR a (.code (.scope c)::k)) cs w)=.next (lone (b.atR a (.code c::.inScope c::k)) cs w):=step_lone_go (by simp [stepG,stepG.exec,Frame.atR])
  have h0:(lone (b.atR a (.code (.scope c)::k)) cs w).fenced P F:=fenced_calm hb hr rfl
  have hx:∀ id,exitTo id (.inScope c::k)=exitTo id k:=fun id=>by simp [exitTo]
  obtain ⟨e,a₁,w₁,hq,harr⟩:=h b (.inScope c::k) cs hro hb hr
  cases e with
  | normal =>
    have s2:step P (lone (b.atR a₁ (.inScope c::k)) cs w₁)=.next (lone (b.atR a₁ k) cs w₁):=step_lone_go (by simp [stepG,stepG.exec,Frame.atR])
    exact ⟨.normal,a₁,w₁,hq,.head h0 s1 (StepsIn.trans harr (.one (fenced_calm (fr:=b.atR a₁ (.inScope c::k)) hb hr rfl) s2))⟩
  | exit id =>
    exact ⟨.exit id,a₁,w₁,hq,fun k' hk=>.head h0 s1 (harr.1 k' (by rw [hx]; exact hk)),
      fun hr' hk=>let ⟨k₁,h1,h2⟩:=harr.2 hr' (by rw [hx]; exact hk); ⟨k₁,h1,.head h0 s1 h2⟩⟩
  | goto l=>exact (hQ l a₁ w₁ hq).elim
  | ret=>exact ⟨_,a₁,w₁,hq,.of_steps (.one h0 s1) harr⟩
  | panic ch=>exact ⟨_,a₁,w₁,hq,.of_steps (.one h0 s1) harr⟩
  | outgrown=>exact ⟨_,a₁,w₁,hq,.of_steps (.one h0 s1) harr⟩
theorem Zr {l:Nat}:∀ {k:List It} (a:Act) (w:World),zC P rd Q k (.goto l) a w→Q (.goto l) a w
  | [],_,_,h=>h
  | .blk _::k,a,w,h=>Zr (k:=k) a w h
  | .code _::k,a,w,h=>Zr (k:=k) a w h
  | .ops _ _::k,a,w,h=>Zr (k:=k) a w h
  | .goal _::k,a,w,h=>Zr (k:=k) a w h
theorem qgN {c:Code} (hQ:∀ l a w,Q (.goto l) a w→False) (h:W P rd w0 Q n ds (.code c::k) env H):W P rd w0 Q n ds (.code (.scope c)::k) env H :=
  fun a w ha hd hs=>Xn (fun l a w hc=>hQ l a w (Zr a w hc)) (h a w ha hd hs)
theorem qgS {l:Nat} (h:W P rd w0 Q n ds k env H):W P rd w0 Q n ds (.code (.label l)::k) env H:=fun a w ha hd hs=>wpIn_label (h a w ha hd hs)
end
end Go.Sl
namespace Go.Sl
open Go.RowKit
section
variable {P:Program} {rd:Option Nat} {w0:World} {Q:Exit→Act→World→Prop} {n:Nat} {ds:List Deferred} {k:List It} {env:Env} {H:qg}
theorem z0 {X:Type} {c:Code} (C:Env) (E:X→Env) (DS:X→List Deferred) (HH:X→qg) (I:X→Prop) (μ:X→Nat) (x0:X) (h0:I x0) (hc:sub C env) (he:sub (E x0) env) (hd0:ds=DS x0) (hh:qd H (HH x0))
    (round:∀ x,I x→W P rd w0 Q n (DS x) (.code c::.goal (fun a w=>∃ x',I x'∧μ x' < μ x∧qL n (E x'++C) a∧a.defers=DS x'∧Sat w0 (HH x') w)::k) (E x++C) (HH x)) :
    W P rd w0 Q n ds (.code (.loop c)::k) env H :=
  ZH (fun x=>E x++C) DS HH I μ x0 h0 (fun p hp=>(List.mem_append.1 hp).elim (he p) (hc p)) hd0 hh round
variable {H':qg} {all:Array Oper} {rest:List Oper} {d:Nat} {x y c:Operand} {t u ty:TypeId} {pos:String} {aft:Array Edge} {v:Value}
theorem qbJ {s by_ len es eb:Nat} {z ez:Value} {e:TypeId} {ed:TypeDesc} {parts:List (Nat × Operand)} {ps:List (Nat × List Value)} {l:List Value} {C:World→Prop} (ht:Ty P t (.array len e) s z by_) (he:Ty P e ed es ez eb)
    (hp:JA env (J3 es) s parts ps) (hz:Nat.beq z.cells.size s=true) (hl:Ym z.cells.toList ps=l) :
    Ex P n env C (.build t parts.toArray) ty (.agg l.toArray):=fun a w d pos aft g ha _=>by
  obtain ⟨out,ho,hol⟩:=hp.run ha (cells:=z.cells) (by simpa using hz)
  have hout:out=l.toArray:=by apply Array.ext'; rw [hol,hl]
  have ho':Instr.fill (fun i=>some (i*es,es)) z.cells (parts.map fun (i,x)=>(i,a.eval x))=some out:=ho
  have hr:(Instr.build t (parts.map fun (i,x)=>(i,a.eval x)).toArray).run P w=.ok (.agg l.toArray) w:=by
    unfold Instr.build
    simp only [Sem.run_bind,ht.zero,ht.run,he.size,Result.andThen]
    rw [ho']
    subst hout
    rfl
  simp only [execOp,List.map_toArray,Sem.run_bind,hr]
  simp [Result.andThen]
theorem qn {s by_ len es eb:Nat} {z ez:Value} {e:TypeId} {ed:TypeDesc} {parts:List (Nat × Operand)} {ps:List (Nat × List Value)} {l:List Value} (ht:Ty P t (.array len e) s z by_) (he:Ty P e ed es ez eb)
    (hp:JA env (J3 es) s parts ps) (hz:Nat.beq z.cells.size s=true) (hl:Ym z.cells.toList ps=l) (hd:Nat.blt d n=true)
    (h:W P rd w0 Q n ds (.ops all rest::k) ((d,.agg l.toArray)::env) H) :
    W P rd w0 Q n ds (.ops all (⟨some d,.build t parts.toArray,ty,pos,aft,none⟩::rest)::k) env H :=
  q5 rfl nofun hd (fun a w ha hs=>qbJ (C:=fun _=>True) ht he hp hz hl a w _ _ _ _ ha trivial) h
end
end Go.Sl
namespace Go.Sl
open Go.RowKit
inductive K0 (P:Program) (w0:World) (env:Env) (H:qg):ResultVar→Value→Prop
  | tmp {t:Nat} {v:Value} (h:look env t=some v):K0 P w0 env H (.tmp t) v
  | own {t ty b s e tot by_:Nat} {td:TypeDesc} {z:Value} {vs:List Value} (hv:look env t=some (.pointer (some ⟨b,0,none⟩))) (ht:Ty P ty td s z by_) (hf:ZS td=false) (hm:(b,Blk.cells e tot vs)∈H) (hl:vs.length=s):K0 P w0 env H (.cell t ty) (.agg vs.toArray)
  | one {t ty b i s by_:Nat} {td:TypeDesc} {z v:Value} (hv:look env t=some (.pointer (some ⟨b,i,none⟩))) (ht:Ty P ty td s z by_) (hf:ZS td=true) (hc:qh w0 H b i v):K0 P w0 env H (.cell t ty) v
def Kq (tmps:Array Value):ResultVar→Sem Value
  | .tmp t=>pure (tmps.getD t undef)
  | .cell a t=>do loadVar t (← asAddr (tmps.getD a undef))
theorem K0.run {P:Program} {w0 w:World} {env:Env} {H:qg} {r:ResultVar} {v:Value} {n:Nat} {a:Act} (h:K0 P w0 env H r v) (ha:qL n env a) (hs:Sat w0 H w):(Kq a.tmps r).run P w=.ok v w:=by
  cases h with
  | tmp h=>simp [Kq,ha.val _ _ h]
  | @own t ty b s e tot by_ td z vs hv ht hf hm hl =>
    have hc:zP w0 H b 0 vs:=zP.own hm (by simp)
    have hcs:=run_loadCells_list (P:=P) (w:=w) ⟨b,0,none⟩ vs (fun j u hu=>by rw [qx]; exact hc j u hu w hs)
    rw [hl] at hcs
    simp [Kq,ha.val _ _ hv,asAddr,loadVar,ht.isAgg,ht.size,hf,hcs,Result.andThen]
  | one hv ht hf hc=>simp [Kq,ha.val _ _ hv,asAddr,loadVar,ht.isAgg,hf,hc w hs,Result.andThen]
section
variable {P:Program} {w0:World} {fn:Func} {R:Value→qg→Prop} {n:Nat} {ds:List Deferred} {k:List It} {env:Env} {H H' H2:qg} {r1 r2 r3:ResultVar} {v1 v2 v3:Value}
theorem qa8 (fn:Func) (tmps:Array Value):results fn tmps=(do let vs ← fn.results.mapM (Kq tmps); pure (if h:vs.size=1 then vs[0] else .tuple vs)):=by
  unfold results Kq; rfl
theorem qcK {a:Act} {w:World} (hr:fn.results=#[r1,r2]) (h1:K0 P w0 env H r1 v1) (h2:K0 P w0 env H r2 v2) (ha:qL n env a) (hs:Sat w0 H w):(results fn a.tmps).run P w=.ok (.tuple #[v1,v2]) w:=by
  have e1:=h1.run ha hs
  have e2:=h2.run ha hs
  simp [qa8,hr,e1,e2,Result.andThen]
theorem zm (hr:fn.results=#[r1,r2]) (hM:ZO ds H H') (h1:K0 P w0 env H' r1 v1) (h2:K0 P w0 env H' r2 v2) (hu:qd H' H2) (hR:R (.tuple #[v1,v2]) H2):W P none w0 (YA P w0 fn R) n ds (.code .ret::k) env H :=
  KG fun a w ha hd hs=>by
    show LeavesInM _ _ _ _ _ _ a.defers _ _
    rw [hd]
    exact zL hM hu (fun w hs'=>qcK hr h1 h2 ha hs') hs hR
end
end Go.Sl
namespace Go.Sl
open Go.RowKit
section
variable {P:Program} {rd:Option Nat} {w0:World} {Q:Exit→Act→World→Prop} {n:Nat} {ds:List Deferred} {k:List It} {env env':Env} {H H':qg} {all:Array Oper} {rest:List Oper}
variable {d:Nat} {x y c:Operand} {t u ty:TypeId} {pos:String} {aft:Array Edge} {v:Value}
theorem qbI {ad:Option Addr} {len cap s by_:Nat} {e:TypeId} {z:Value} {C:World→Prop} (hx:opv env x=some (.slice ad len cap)) (hy:opv env y=some (.slice none 0 0)) (ht:Ty P t (.slice e) s z by_) :
    Ex P n env C (.binOp .eql t x y u) ty (.bool ad.isNone):=fun a w d pos aft g ha _=>by
  have he:(eqGuard .eql t x y (.slice ad len cap) (.slice none 0 0)).run P w=.ok () w:=by simp [eqGuard]
  have h2:(Go.binOp .eql t (.slice ad len cap) (.slice none 0 0)).run P w=.ok (.bool ad.isNone) w:=by
    have:=run_equal_slice_nil (P:=P) w t e ad len cap ht.und
    simp [Go.binOp,this,Result.andThen]
  simp [execOp,ha.opv hx,ha.opv hy,he,h2,Result.andThen]
def b8 (l:List Int):List UInt8:=l.map fun z=>UInt8.ofNat z.toNat
end
end Go.Sl
namespace Go.Sl
open Go.RowKit
section
variable {P:Program} {ops:Array Oper} {C:World→Prop} {Q:Exit→Act→World→Prop}
def Qz (P:Program) (ops:Array Oper) (C:World→Prop) (Q:Exit→Act→World→Prop):Nat→Array Bool→Act→World→Prop
  | 0,l,a,w=>C w∧Region.ready .any ops l=[]∧Q .normal a w
  | f+1,l,a,w=>C w∧(Region.ready .any ops l=[]→Q .normal a w)∧∀ i∈Region.ready .any ops l,wpOpIn (fen none) 0 P ops Q i (Qz P ops C Q f (l.setIfInBounds i true)) a w
theorem Qz.here {f:Nat} {l:Array Bool} {a:Act} {w:World} (h:Qz P ops C Q f l a w):C w:=by
  cases f <;> exact h.1
theorem Qz.any:∀ {f:Nat} {l:Array Bool} {a:Act} {w:World},Qz P ops C Q f l a w→wpAnyIn (fen none) 0 P .any ops Q f l a w
  | 0,_,_,_,h=>h.2
  | f+1,_,_,_,h=>⟨h.2.1,fun i hi=>wpOpIn_mono (fun _ _ h=>h.any) (h.2.2 i hi)⟩
structure QW (P:Program) (ops:Array Oper) (C:World→Prop) (o:Oper) (v:Value) (a:Act):Prop where
  wanted:Region.wanted o (yielded ops a.tmps)=true
  run:∀ w,C w→(execOp a.eval o).run P w=.ok (.value v) w
  about:∀ w,C w→o.about P w a.eval=none
structure Jz (P:Program) (ops:Array Oper) (o o':Oper) (a a':Act):Prop where
  run:execOp a'.eval o=execOp a.eval o
  wanted:Region.wanted o (yielded ops a'.tmps)=Region.wanted o (yielded ops a.tmps)
  about:∀ w,o.about P w a'.eval=o.about P w a.eval
theorem QW.pass {o o':Oper} {v:Value} {a a':Act} (h:QW P ops C o v a) (hs:Jz P ops o o' a a'):QW P ops C o v a' :=
  ⟨hs.wanted.trans h.wanted,fun w hw=>by rw [hs.run]; exact h.run w hw,fun w hw=>by rw [hs.about]; exact h.about w hw⟩
theorem QW.op {i:Nat} {o:Oper} {v:Value} {a:Act} {w:World} {K:Act→World→Prop} (hi:ops[i]?=some o) (hy:QW P ops C o v a) (hw:C w) (h:K (a.put o.dst v) w):wpOpIn (fen none) 0 P ops Q i K a w:=by
  unfold Go.wpOpIn
  simp only [hi,hy.wanted,if_true,Oper.wpIn,Oper.semAt_none,hy.run w hw,Oper.uponIn]
  exact ⟨fun f hf=>(by rw [hy.about w hw] at hf; cases hf),h⟩
theorem op_putC {j:Nat} {oi oj:Oper} {v:Value} (hj:ops[j]?=some oj) (hap:oi.apart ops oj=true) (hsi:∀ cs b,oi.op≠.select cs b) (hsj:∀ cs b,oj.op≠.select cs b)
    (hQ:∀ c a w,Q (.panic c) (a.put oi.dst v) w→Q (.panic c) a w) {K:Act→World→Prop} {a:Act} {w:World} (h:wpOpIn (fen none) 0 P ops Q j K (a.put oi.dst v) w) :
    wpOpIn (fen none) 0 P ops Q j (fun a' w'=>Jz P ops oi oj a a'∧K (a'.put oi.dst v) w') a w:=by
  obtain ⟨h1,h2,h3⟩:=Oper.apart_spec hap
  have keep:∀ u,Jz P ops oi oj a (a.put oj.dst u):=fun u=>⟨execOp_put oi hsi a oj.dst u h3,wanted_put oi a oj.dst u h3,fun w=>about_put oi w a oj.dst u h3⟩
  have keepD:∀ d u,Jz P ops oi oj a (Act.put { a with defers:=d::a.defers } oj.dst u):=fun d u=>by
    have h:=(⟨execOp_put oi hsi { a with defers:=d::a.defers } oj.dst u h3,wanted_put oi { a with defers:=d::a.defers } oj.dst u h3,fun w=>about_put oi w { a with defers:=d::a.defers } oj.dst u h3⟩:Jz P ops oi oj { a with defers:=d::a.defers } _)
    exact ⟨h.run,h.wanted,h.about⟩
  unfold wpOpIn at *
  simp only [hj] at *
  rw [wanted_put oj a oi.dst v h1,about_put oj w a oi.dst v h1] at h
  split
  · rename_i hw
    simp only [hw,if_true] at h
    unfold Oper.wpIn at *
    rw [about_put oj w a oi.dst v h1] at h
    refine ⟨h.1,?_⟩
    have h:=h.2
    rw [Oper.semAt_none,execOp_put oj hsj a oi.dst v h1] at h
    rw [Oper.semAt_none]
    generalize (execOp a.eval oj).run P w=r at *
    cases r with
    | ok x w' =>
      cases x <;> simp only [Oper.uponIn] at h ⊢
      case value u=>exact ⟨keep u,by rw [← Act.put_comm a v u h2]; exact h⟩
      case skip=>exact ⟨keep _,by rw [← Act.put_comm a v undef h2]; exact h⟩
      case defer d =>
        refine ⟨keepD d _,?_⟩
        rw [← Act.put_comm _ v undef h2,← Act.put_defers]
        exact h
      case enter f args =>
        refine ⟨h.1,CallsIn.mono h.2 fun e w'' he=>?_⟩
        cases e with
        | returned u=>exact ⟨keep u,by rw [← Act.put_comm a v u h2]; exact he⟩
        | panicked c=>exact hQ _ _ _ he
        | outgrown=>exact he
      case row row args=>exact ⟨h.1,RowsIn.mono h.2 fun u w'' he=>⟨keep u,by rw [← Act.put_comm a v u h2]; exact he⟩⟩
      case round l f tmps assign body =>
        refine ⟨h.1,RoundIn.mono h.2 fun e w'' he=>?_⟩
        cases e with
        | returned u=>exact ⟨keep u,by rw [← Act.put_comm a v u h2]; exact he⟩
        | panicked c=>exact hQ _ _ _ he
        | outgrown=>exact he
    | halt x w' =>
      cases x <;> simp only [Oper.uponIn] at h ⊢
      case panic u=>exact hQ _ _ _ h
  · rename_i hw
    simp only [hw] at h
    exact ⟨h.1,keep _,by rw [← Act.put_comm a v undef h2]; exact h.2⟩
theorem ZF {i:Nat} {oi:Oper} {v:Value} (hi:ops[i]?=some oi) (hsel:∀ (j:Nat) (o:Oper) cs b,ops[j]?=some o→o.op≠.select cs b) (hQ:∀ c a w,Q (.panic c) (a.put oi.dst v) w→Q (.panic c) a w) :
    ∀ (f:Nat) (l:Array Bool) (a:Act) (w:World),
      (∀ j oj,ops[j]?=some oj→j≠i→l.getD j true=false→(∀ e∈oj.after,Region.binds .any e=true→e.on≠i)→oi.apart ops oj=true) →
      i∈Region.ready .any ops l→QW P ops C oi v a→Qz P ops C Q f (l.setIfInBounds i true) (a.put oi.dst v) w→Qz P ops C Q (f+1) l a w:=by
  intro f
  induction f with
  | zero =>
    intro l a w _ hr hy H
    refine ⟨H.1,fun h=>(by rw [h] at hr; cases hr),fun j hj=>?_⟩
    by_cases hji:j=i
    · subst hji; exact hy.op hi H.1 H
    · have:=ready_mono hj hji
      rw [H.2.1] at this
      cases this
  | succ f ih =>
    intro l a w hfree hr hy H
    refine ⟨H.1,fun h=>(by rw [h] at hr; cases hr),fun j hj=>?_⟩
    by_cases hji:j=i
    · subst hji; exact hy.op hi H.1 H
    · have h1:=H.2.2 j (ready_mono hj hji)
      obtain ⟨hjun,oj,hoj,hall⟩:=mem_ready.1 hj
      have hnot:∀ e∈oj.after,Region.binds .any e=true→e.on≠i:=fun e he hb heq=>by
        have h1:=hall e he hb
        have h0:=(mem_ready.1 hr).1
        rw [heq] at h1
        rcases Nat.lt_or_ge i l.size with h' | h'
        · simp [h'] at h0 h1; rw [h0] at h1; cases h1
        · simp [Array.getElem?_eq_none h'] at h1
      have h2:=op_putC hoj (hfree j oj hoj hji hjun hnot) (fun cs b=>hsel i oi cs b hi) (fun cs b=>hsel j oj cs b hoj) hQ h1
      have hfree':∀ k ok,ops[k]?=some ok→k≠i→(l.setIfInBounds j true).getD k true=false →
          (∀ e∈ok.after,Region.binds .any e=true→e.on≠i)→oi.apart ops ok=true:=fun k ok hk hki hun hno=>by
        refine hfree k ok hk hki ?_ hno
        by_cases hjk:j=k
        · subst hjk; exact hjun
        · rw [getD_set_ne true hjk] at hun; exact hun
      refine wpOpIn_mono (fun a' w' h3=>ih (l.setIfInBounds j true) a' w' hfree' (ready_mono hr (Ne.symm hji)) (hy.pass h3.1) ?_) h2
      rw [Array.setIfInBounds_comm _ _ hji]
      exact h3.2
end
section
variable {P:Program} {w0:World} {Q:Exit→Act→World→Prop} {n:Nat} {ds:List Deferred} {k:List It} {env env':Env} {H H' Hc:qg} {ops:Array Oper}
def WC (P:Program) (w0:World) (Q:Exit→Act→World→Prop) (n:Nat) (ds:List Deferred) (k:List It) (ops:Array Oper) (Hc:qg) (fuel:Nat) (listed:Array Bool) (env:Env) (H:qg):Prop :=
  ∀ a w,qL n env a→a.defers=ds→Sat w0 H w→Qz P ops (Sat w0 Hc) (Q0 P Q k) fuel listed a w
theorem qbN {id:Nat} {l:List Oper} (Hc:qg) (hm:P.follows .mixedOrders=true) (h:WC P w0 Q n ds k l.toArray Hc l.length (Array.replicate l.length false) env H):W P none w0 Q n ds (.code (.region id l.toArray true)::k) env H:=by
  intro a w ha hd hs
  show (Code.region id l.toArray true).wpIn (fen none) 0 P (zC P none Q k) a w
  exact wpIn_mono (wpIn_region_any hm (by simpa using (h a _ ha hd hs.drew).any)) fun _ _ _=>qfk
theorem Yx {fuel:Nat} {listed:Array Bool} (hh:qd H Hc) (hr:Region.ready .any ops listed=[]) (h:W P none w0 Q n ds k env H):WC P w0 Q n ds k ops Hc fuel listed env H:=fun a w ha hd hs=>by
  have hq:Q0 P Q k .normal a w:=h a w ha hd hs
  cases fuel with
  | zero=>exact ⟨hs.hsub hh,hr,hq⟩
  | succ f=>exact ⟨hs.hsub hh,fun _=>hq,by rw [hr]; simp⟩
def ZL:Op→Bool
  | .call ⟨.builtin _,_,_⟩=>true
  | .call _=>false
  | _=>true
theorem zv {o:Oper} (h:ZL o.op=true) (w:World) (ρ:Operand→Value):o.about P w ρ=none:=by
  unfold Oper.about
  cases ho:o.op <;> first | rfl | skip
  rename_i c
  obtain ⟨c,args,tys⟩:=c
  rw [ho] at h
  cases c with
  | builtin b=>simp [resolve,Result.andThen,Target.leads]
  | _=>simp [ZL] at h
theorem zg (i:Nat) {op:Op} {ty:TypeId} {v:Value} {d:Nat} {pos:String} {aft:Array Edge} {fuel:Nat} {listed l':Array Bool} (hi:ops[i]?=some ⟨some d,op,ty,pos,aft,none⟩) (hs:Region.noSelect ops=true) (hf:Region.free .any ops listed i=true) (hr:(Region.ready .any ops listed).contains i=true)
    (hcall:ZL op=true) (hl:listed.setIfInBounds i true=l') (hx:Ex P n env (Sat w0 Hc) op ty v) (hd:Nat.blt d n=true)
    (h:WC P w0 Q n ds k ops Hc fuel l' ((d,v)::env) H):WC P w0 Q n ds k ops Hc (fuel+1) listed env H:=fun a w ha hds hsat=>by
  subst hl
  exact ZF hi (Region.noSelect_spec hs) (fun _ _ _ hq=>hq.elim) fuel listed a w (Region.free_spec hi hf) (by simpa using hr)
    ⟨by simp [Region.wanted],fun w hw=>hx a w _ _ _ _ ha hw,fun w _=>zv hcall w _⟩ (h _ w (ha.put (d:=some d) hd) hds hsat)
theorem qdt {i:Nat} {o:Oper} {K:Act→World→Prop} {a:Act} {w:World} (hi:ops[i]?=some o) (h1:wpListIn (fen none) 0 P ops (zC P none (fun _ _ _=>False) [.goal K]) [o] a w):wpOpIn (fen none) 0 P ops (Q0 P Q k) i K a w:=by
  unfold wpOpIn
  rw [hi]
  unfold wpListIn at h1
  show if _ then _ else _
  split
  · rename_i hw
    rw [if_pos hw] at h1
    unfold Oper.wpIn
    refine ⟨h1.1,?_⟩
    have h2:=h1.2
    generalize (o.semAt (fen none).round a.eval).run P w=r at h2 ⊢
    cases r with
    | ok x w' =>
      cases x <;> simp only [Oper.uponIn] at h2 ⊢ <;>
        first
          | exact h2
          | exact ⟨h2.1,CallsIn.mono h2.2 (fun e w'' he=>by cases e <;> first | exact he | exact he.elim | (obtain ⟨_,_,hf⟩:=he; exact hf.elim))⟩
          | exact ⟨h2.1,RowsIn.mono h2.2 (fun _ _ he=>he)⟩
          | exact ⟨h2.1,RoundIn.mono h2.2 (fun e w'' he=>by cases e <;> first | exact he | exact he.elim | (obtain ⟨_,_,hf⟩:=he; exact hf.elim))⟩
    | halt x w'=>cases x <;> simp only [Oper.uponIn] at h2 ⊢ <;> first | exact h2 | exact h2.elim
  · rename_i hw
    rw [if_neg hw] at h1
    exact h1
theorem YQ (i:Nat) {o:Oper} {fuel:Nat} {listed l':Array Bool} (hh:qd H Hc) (hr:Region.ready .any ops listed=[i]) (hi:ops[i]?=some o) (hl:listed.setIfInBounds i true=l')
    (h:W P none w0 (fun _ _ _=>False) n ds [.ops ops [o],.goal (fun a w=>Qz P ops (Sat w0 Hc) (Q0 P Q k) fuel l' a w)] env H):WC P w0 Q n ds k ops Hc (fuel+1) listed env H:=fun a w ha hds hsat=>by
  subst hl
  refine ⟨hsat.hsub hh,fun h0=>(by rw [hr] at h0; cases h0),fun j hj=>?_⟩
  rw [hr] at hj
  obtain rfl:j=i:=by simpa using hj
  exact qdt hi (h a w ha hds hsat)
theorem Zc {fuel:Nat} {l':Array Bool} {k':List It} {Q':Exit→Act→World→Prop} (h:WC P w0 Q n ds k ops Hc fuel l' env H):W P none w0 Q' n ds (.goal (fun a w=>Qz P ops (Sat w0 Hc) (Q0 P Q k) fuel l' a w)::k') env H :=
  YP fun a w ha hd hs=>h a w ha hd hs
end
end Go.Sl
namespace Go.Sl
open Go.RowKit
section
variable {P:Program} {rd:Option Nat} {w0:World} {Q:Exit→Act→World→Prop} {n:Nat} {ds:List Deferred} {k:List It} {env env':Env} {H H':qg}
theorem qgL {t ty:TypeId} {s by_:Nat} {z:Value} {td:TypeDesc} {pl:List (Nat × Nat)} {parts:List (Nat × Operand)} {ps:List (Nat × List Value)} {l:List Value} {C:World→Prop} (ht:Ty P t td s z by_) (hst:qG P t pl)
    (hp:JA env (fun i=>pl[i]?) s parts ps) (hz:Nat.beq z.cells.size s=true) (hl:Ym z.cells.toList ps=l):Ex P n env C (.build t parts.toArray) ty (.agg l.toArray):=fun a w d pos aft g ha _=>by
  obtain ⟨fs,h1,h2⟩:=hst.is
  obtain ⟨out,ho,hol⟩:=hp.run ha (cells:=z.cells) (by simpa using hz)
  have hout:out=l.toArray:=by apply Array.ext'; rw [hol,hl]
  have h2':=h2 w
  have ho':Instr.fill (pl.toArray[·]?) z.cells (parts.map fun (i,x)=>(i,a.eval x))=some out:=by simpa using ho
  have hr:(Instr.build t (parts.map fun (i,x)=>(i,a.eval x)).toArray).run P w=.ok (.agg l.toArray) w:=by
    unfold Instr.build
    simp only [Sem.run_bind,ht.zero,Result.andThen,run_underlying h1]
    rw [h2']
    simp only [ho',hout,Sem.run_pure]
  simp [execOp,hr,Result.andThen]
theorem qq.drop {b o o' m cap:Nat} {xs:List Value} (h:qq w0 H (some ⟨b,o,none⟩) xs) (hl:xs.length≤cap) (ho:m<cap→o'=o+m):qq w0 H (some ⟨b,o',none⟩) (xs.drop m):=fun j x hx=>by
  rw [List.getElem?_drop] at hx
  have hj:=(List.getElem?_eq_some_iff.1 hx).1
  obtain ⟨b1,o1,e,hc⟩:=h _ _ hx
  cases e
  rw [ho (by omega)]
  exact ⟨b,_,rfl,by rw [Nat.add_assoc]; exact hc⟩
end
end Go.Sl
namespace Go.Sl
open Go.RowKit
section
variable {P:Program} {rd:Option Nat} {w0:World} {Q:Exit→Act→World→Prop} {n:Nat} {ds:List Deferred} {k:List It} {env env':Env} {H H':qg} {all:Array Oper} {rest:List Oper}
variable {d:Nat} {x y c:Operand} {t u ty:TypeId} {pos:String} {aft:Array Edge} {v:Value}
theorem Xv {ad:Option Addr} {s by_:Nat} {e:TypeId} {z:Value} (ht:Ty P t (.pointer e) s z by_) (w:World):(Op.equal t (.pointer ad) (.pointer none)).run P w=.ok ad.isNone w:=by
  have h1:∀ m,(Op.equalIn (m+1) t (.pointer ad) (.pointer none)).run P w=.ok ad.isNone w:=fun m=>by
    simp only [Op.equalIn,Sem.run_bind,ht.run,Result.andThen]
    cases ad <;> rfl
  exact h1 9999
theorem qY {ad:Option Addr} {s by_:Nat} {e:TypeId} {z:Value} {C:World→Prop} (hx:opv env x=some (.pointer ad)) (hy:opv env y=some (.pointer none)) (ht:Ty P t (.pointer e) s z by_) :
    Ex P n env C (.binOp .eql t x y u) ty (.bool ad.isNone):=fun a w d pos aft g ha _=>by
  have he:(eqGuard .eql t x y (.pointer ad) (.pointer none)).run P w=.ok () w:=by simp [eqGuard]
  have h2:(Go.binOp .eql t (.pointer ad) (.pointer none)).run P w=.ok (.bool ad.isNone) w:=by
    simp [Go.binOp,Xv ht,Result.andThen]
  simp [execOp,ha.opv hx,ha.opv hy,he,h2,Result.andThen]
theorem Xa {ad:Option Addr} {s by_:Nat} {e:TypeId} {z:Value} {C:World→Prop} (hx:opv env x=some (.pointer ad)) (hy:opv env y=some (.pointer none)) (ht:Ty P t (.pointer e) s z by_) :
    Ex P n env C (.binOp .neq t x y u) ty (.bool (!ad.isNone)):=fun a w d pos aft g ha _=>by
  have he:(eqGuard .neq t x y (.pointer ad) (.pointer none)).run P w=.ok () w:=by simp [eqGuard]
  have h2:(Go.binOp .neq t (.pointer ad) (.pointer none)).run P w=.ok (.bool (!ad.isNone)) w:=by
    simp [Go.binOp,Xv ht,Result.andThen]
  simp [execOp,ha.opv hx,ha.opv hy,he,h2,Result.andThen]
theorem JO {b o len l hh s es by_ eb:Nat} {lo hi:Option Operand} {e:TypeId} {z ez:Value} {ed:TypeDesc} {C:World→Prop} (hx:opv env x=some (.pointer (some ⟨b,o,none⟩))) (ht:Ty P t (.array len e) s z by_) (he:Ty P e ed es ez eb)
    (hlo:Z6 env 0 lo l) (hhi:Z6 env len hi hh) (h1:l≤hh) (h2:hh≤len) (h3:l<len):Ex P n env C (.slice t x lo hi none) ty (.slice (some ⟨b,o+l*es,none⟩) (hh-l) (len-l)):=fun a w d pos aft g ha _=>by
  have hb:(Instr.sliceBounds false len len (lo.map a.eval) (hi.map a.eval) none).run P w=.ok (l,hh,len) w:=by
    cases lo with
    | none =>
      have hl:l=0:=hlo
      subst hl
      cases hi with
      | none=>have:hh=len:=hhi; subst this; simp [Instr.sliceBounds,Result.andThen]
      | some o=>obtain ⟨q,hq⟩:=hhi; simp [Instr.sliceBounds,ha.opv hq,Instr.sliceBound,asIntOf,h2,Result.andThen]
    | some o' =>
      obtain ⟨q',hq'⟩:=hlo
      cases hi with
      | none=>have:hh=len:=hhi; subst this; simp [Instr.sliceBounds,ha.opv hq',Instr.sliceBound,asIntOf,h1,Result.andThen]
      | some o=>obtain ⟨q,hq⟩:=hhi; simp [Instr.sliceBounds,ha.opv hq,ha.opv hq',Instr.sliceBound,asIntOf,h1,h2,Result.andThen]
  have hne:¬ len=l:=by omega
  simp [execOp,Instr.sliceAt,ha.opv hx,ht.run,Instr.sureAddr,hb,he.size,Result.andThen,hne,qx]
theorem qib {b o dlen dcap m cap kk s sl bl bytes tot:Nat} {ad:Option Addr} {e e':TypeId} {zl z:Value} {de:TypeDesc} {l l' news:List Value} {od:Option Nat} (hx:opv env x=some (.slice (some ⟨b,o,none⟩) dlen dcap)) (hy:opv env y=some (.slice ad m cap)) (ht:Ty P t (.slice e) sl zl bl) (he:Ty P e de s z bytes)
    (hk:min m dlen=kk) (hl:news.length=kk*s) (hnews:qq w0 H ad news) (h1:news.all Value.oneCell'=true) (hm:(b,Blk.cells e' tot l)∈H) (hi:o+news.length≤l.length) (hl':zA l o news=l') (hu:Upd b (.cells e' tot l) (.cells e' tot l') H H') (hd:dok n od=true)
    (h:W P rd w0 Q n ds (.ops all rest::k) (put od (.int .i64 (kk:Int)) env) H'):W P rd w0 Q n ds (.ops all (⟨od,.call ⟨.builtin .copy,#[x,y],#[t,u]⟩,ty,pos,aft,none⟩::rest)::k) env H :=
  Jy rfl nofun hd fun a w ha hs=>by
    subst hl' hk
    obtain ⟨hb,cur,hc,hsz,htk⟩:=hs.own _ hm
    have hlen:l.length≤cur.size:=by
      have:=congrArg List.length htk
      simp only [List.length_take,Array.length_toList] at this
      omega
    have h1':∀ v∈news,v.oneCell'=true:=fun v hv=>List.all_eq_true.1 h1 v hv
    have hst:=run_storeCells_at P b o e' news 0 cur w hc (by omega) h1'
    simp only [Nat.add_zero] at hst
    have hfc:(Builtin.firstCells s (min m dlen) (.slice ad m cap)).run P w=.ok news.toArray w:=by
      cases ad with
      | none =>
        have:news=[]:=by
          cases hn:news with
          | nil=>rfl
          | cons y ys =>
            obtain ⟨_,_,e,_⟩:=hnews 0 y (by rw [hn]; rfl)
            cases e
        subst this
        simp [Builtin.firstCells]
      | some a0 =>
        obtain ⟨b1,o1,sp⟩:=a0
        by_cases hz:news=[]
        · subst hz
          have h0:min m dlen*s=0:=by simpa using hl.symm
          have:=run_loadCells_list (P:=P) (w:=w) ⟨b1,o1,sp⟩ [] (fun j u hu=>by simp at hu)
          simp only [List.length_nil] at this
          simp [Builtin.firstCells,h0,this,Result.andThen]
        · have hpos:0<news.length:=List.length_pos_iff.2 hz
          obtain ⟨b2,o2,e2,_⟩:=hnews 0 _ (List.getElem?_eq_getElem hpos)
          cases e2
          have:=run_loadCells_list (P:=P) (w:=w) ⟨b1,o1,none⟩ news (fun j u hu=>by
            obtain ⟨b3,o3,e3,hc3⟩:=hnews j u hu
            cases e3
            rw [qx]; exact hc3 w hs)
          rw [hl] at this
          simp [Builtin.firstCells,this,Result.andThen]
    refine ⟨.int .i64 ((min m dlen:Nat):Int),H',_,.inl ?_,hs.upd hu (Ql (cs:=(List.take o cur.toList++news++List.drop (o+news.length) cur.toList).toArray) hb) (fun j hj _=>setRow_other w b j _ hj) ?_,h⟩
    · simp [execOp,resolve,invoke,builtin,Builtin.copy_,ha.opv hx,ha.opv hy,ht.run,he.size,Builtin.lenOf,hfc,hst,goInt,Result.andThen]
    · refine ⟨_,setRow_heap w b cur _ e' _ hc,?_,?_⟩
      · simp only [List.size_toArray,List.length_append,List.length_take,List.length_drop,Array.length_toList]
        omega
      · rw [QM (by simpa using hi)]
        show (List.take o cur.toList++news++List.drop (o+news.length) cur.toList).take l.length=zA l o news
        unfold zA
        have e1:l.take o=cur.toList.take o:=by rw [← htk,List.take_take]; congr 1; omega
        have e2:l.drop (o+news.length)=(cur.toList.drop (o+news.length)).take (l.length-(o+news.length)):=by
          conv=>lhs; rw [← htk]
          rw [List.drop_take]
        rw [e1,e2,List.append_assoc,List.append_assoc,List.take_append,List.take_append]
        congr 1
        · rw [List.take_take]; congr 1; omega
        · congr 1
          · rw [List.take_of_length_le]; simp only [List.length_take,Array.length_toList]; omega
          · congr 1; simp only [List.length_take,Array.length_toList]; omega
end
end Go.Sl
namespace Go.Sl
open Go.RowKit
inductive z4 where
  | int (q:IntKind)
  | bool
  | string
def z4.is:z4→Value→Prop
  | .int q,v=>∃ m,v=.int q m∧q.min≤m∧m≤q.max
  | .bool,v=>∃ b,v=.bool b
  | .string,v=>∃ s:ByteArray,v=.string s∧s.size≤maxLen
def z4.like:z4→Value→Prop
  | .int q,v=>∃ m,v=.int q m
  | .bool,v=>∃ b,v=.bool b
  | .string,v=>∃ s:ByteArray,v=.string s
def Zt:List z4→List Value→Prop
  | [],[]=>True
  | k::ks,v::vs=>k.is v∧Zt ks vs
  | _,_=>False
def z6:List z4→List Value→Prop
  | [],[]=>True
  | k::ks,v::vs=>k.like v∧z6 ks vs
  | _,_=>False
theorem QQ {k:z4} {ks:List z4} {cs:List Value} (h:Zt (k::ks) cs):∃ v vs,cs=v::vs∧k.is v∧Zt ks vs:=by
  cases cs with
  | nil=>exact h.elim
  | cons v vs=>exact ⟨v,vs,rfl,h.1,h.2⟩
theorem qcZ {cs:List Value} (h:Zt [] cs):cs=[]:=by
  cases cs with
  | nil=>rfl
  | cons v vs=>exact h.elim
theorem Zw:∀ {ks ls:List z4} {xs ys:List Value},Zt ks xs→Zt ls ys→Zt (ks++ls) (xs++ys)
  | [],ls,[],ys,_,h=>h
  | k::ks,ls,x::xs,ys,h,h'=>⟨h.1,Zw h.2 h'⟩
  | [],_,_::_,_,h,_=>h.elim
  | _::_,_,[],_,h,_=>h.elim
theorem Yb:∀ {ks ls:List z4} {zs:List Value},z6 (ks++ls) zs→∃ xs ys,zs=xs++ys∧z6 ks xs∧z6 ls ys
  | [],ls,zs,h=>⟨[],zs,rfl,trivial,h⟩
  | k::ks,ls,[],h=>h.elim
  | k::ks,ls,z::zs,h=>by
    obtain ⟨xs,ys,rfl,h1,h2⟩:=Yb (ks:=ks) h.2
    exact ⟨z::xs,ys,rfl,⟨h.1,h1⟩,h2⟩
theorem Ya:∀ {ks:List z4} {xs:List Value},z6 ks xs→xs.length=ks.length
  | [],[],_=>rfl
  | k::ks,x::xs,h=>congrArg (·+1) (Ya h.2)
  | [],_::_,h=>h.elim
  | _::_,[],h=>h.elim
inductive JT (P:Program) (F:TypeId→List z4→Prop):List Field→Nat→List z4→Prop
  | nil {off:Nat}:JT P F [] off []
  | cons {f:Field} {fs:List Field} {off:Nat} {ks ls:List z4} (hn:f.name≠"_") (ho:f.offset=off) (hc:P.cellsOf f.type=ks.length) (h:F f.type ks) (hs:JT P F fs (off+ks.length) ls):JT P F (f::fs) off (ks++ls)
def z4.desc:z4→TypeDesc
  | .int q=>.int q
  | .bool=>.bool
  | .string=>.string
def Qi (P:Program):Nat→TypeId→List z4→Prop
  | 0,t,ks=>∃ (k:z4) (s by_:Nat) (z:Value),ks=[k]∧Ty P t k.desc s z by_
  | n+1,t,ks=>(∃ (k:z4) (s by_:Nat) (z:Value),ks=[k]∧Ty P t k.desc s z by_) ∨
    (∃ (s by_:Nat) (z:Value) (fs:Array Field),Ty P t (.struct fs) s z by_∧P.stoodInHeld t=false∧P.cellsOf t=ks.length∧JT P (Qi P n) fs.toList 0 ks) ∨
    (∃ (m:Nat) (e:TypeId) (s by_:Nat) (z:Value) (ls:List z4),ks=(List.replicate m ls).flatten∧Ty P t (.array m e) s z by_∧P.cellsOf e=ls.length∧P.cellsOf t=ks.length∧Qi P n e ls)
theorem Qi.leaf {P:Program} {n:Nat} {t:TypeId} {s by_:Nat} {z:Value} {k:z4} (ht:Ty P t k.desc s z by_):Qi P n t [k]:=by
  cases n with
  | zero=>exact ⟨k,s,by_,z,rfl,ht⟩
  | succ n=>exact .inl ⟨k,s,by_,z,rfl,ht⟩
theorem Qi.struct {P:Program} {n:Nat} {t:TypeId} {s by_:Nat} {z:Value} {fs:Array Field} {ks:List z4} (ht:Ty P t (.struct fs) s z by_) (hp:P.stoodInHeld t=false) (hc:P.cellsOf t=ks.length) (h:JT P (Qi P n) fs.toList 0 ks):Qi P (n+1) t ks :=
  .inr (.inl ⟨s,by_,z,fs,ht,hp,hc,h⟩)
theorem Qi.array {P:Program} {n m:Nat} {t e:TypeId} {s by_:Nat} {z:Value} {ls ks:List z4} (ht:Ty P t (.array m e) s z by_) (hks:ks=(List.replicate m ls).flatten) (hce:P.cellsOf e=ls.length) (hc:P.cellsOf t=ks.length) (h:Qi P n e ls):Qi P (n+1) t ks :=
  .inr (.inr ⟨m,e,s,by_,z,ls,hks,ht,hce,hc,h⟩)
section
variable {P:Program} {H:Type} {enc:TypeId × Value→H} {w:World} {base:Nat} {spare:Nat→Bool} {held:Bool}
theorem wf_bd {q:IntKind} {m:Int} (h:(Lit.int q m).wf=true):q.min≤m∧m≤q.max:=by
  simpa [Lit.wf] using h
theorem Ky {k:z4} {t:TypeId} {s by_:Nat} {z:Value} (ht:Ty P t k.desc s z by_) {fuel:Nat} {cs:List Value} {x:DataW H × List MemPlace} (hx:DataW.trod enc P w base spare held fuel t cs=some x):Zt [k] cs:=by
  cases k with
  | int q=>obtain ⟨m,rfl,_,hw⟩:=DataW.trod_int ht.und hx; exact ⟨⟨m,rfl,wf_bd hw⟩,trivial⟩
  | bool=>obtain ⟨b,rfl,_⟩:=DataW.trod_bool ht.und hx; exact ⟨⟨b,rfl⟩,trivial⟩
  | string=>obtain ⟨s,rfl,_,h⟩:=DataW.trod_string ht.und hx; exact ⟨⟨s,rfl,h⟩,trivial⟩
theorem qc7:∀ (n:Nat) {t:TypeId} {ks:List z4},Qi P n t ks→∀ {fuel:Nat} {cs:List Value} {x:DataW H × List MemPlace},DataW.trod enc P w base spare held fuel t cs=some x→Zt ks cs:=by
  intro n
  induction n with
  | zero =>
    intro t ks hf fuel cs x hx
    obtain ⟨k,s,by_,z,rfl,ht⟩:=hf
    exact Ky ht hx
  | succ n ih =>
    intro t ks hf fuel cs x hx
    rcases hf with ⟨k,s,by_,z,rfl,ht⟩ | ⟨s,by_,z,fs,ht,hp,hc,h⟩ | ⟨m,e,s,by_,z,ls,rfl,ht,hce,hc,h⟩
    · exact Ky ht hx
    · obtain ⟨xs,m,_,_,hl,hlen,hfs⟩:=DataW.trod_struct ht.und hx
      have key:∀ (l:List Field) (off:Nat) (ls:List z4),JT P (Qi P n) l off ls→(∀ f∈l,∃ y,DataW.trod enc P w base spare held m f.type ((cs.drop f.offset).take (P.cellsOf f.type))=some y)→off+ls.length=cs.length→Zt ls (cs.drop off):=by
        intro l off ls hl
        induction hl with
        | @nil off=>intro _ he; rw [List.drop_of_length_le (by simp at he; omega)]; trivial
        | @cons f fs off ks ls hn ho hcf hF hs ih2 =>
          intro hall he
          subst ho
          obtain ⟨y,hy⟩:=hall f List.mem_cons_self
          have h1:=ih hF hy
          have h2:=ih2 (fun g hg=>hall g (List.mem_cons_of_mem _ hg)) (by rw [List.length_append] at he; omega)
          have h3:=Zw h1 h2
          rw [hcf,← List.drop_drop,List.take_append_drop] at h3
          exact h3
      have:=key fs.toList 0 ks h (fun f hf=>by
        obtain ⟨i,hi,rfl⟩:=List.getElem_of_mem hf
        have h1:=hfs i fs.toList[i] (by simp [Array.getElem?_eq_getElem (show i<fs.size by simpa using hi)])
        exact ⟨xs[i]'(by rw [hlen]; simpa using hi),by rw [h1,List.getElem?_eq_getElem]⟩) (by rw [hl,hc]; simp)
      simpa using this
    · obtain ⟨xs,d,_,_,hl,hlen,hxs⟩:=DataW.trod_array ht.und hx
      have key:∀ (r j:Nat),j+r=m→Zt (List.replicate r ls).flatten (cs.drop (j*ls.length)):=by
        intro r
        induction r with
        | zero =>
          intro j hj
          obtain rfl:j=m:=by omega
          rw [List.drop_of_length_le (by rw [hl,hc]; simp)]; trivial
        | succ r ihr =>
          intro j hj
          have h1:=hxs j (by omega)
          rw [List.getElem?_eq_getElem (by omega)] at h1
          have h2:=ih h h1
          have h3:=Zw h2 (ihr (j+1) (by omega))
          rw [hce,Nat.add_mul,Nat.one_mul,← List.drop_drop,List.take_append_drop] at h3
          exact h3
      have:=key m 0 (by omega)
      simpa using this
theorem qc6 {α:Type} [Inhabited α] {f:α→List Value} {ok:α→Prop} {n:Nat} {t e:TypeId} {ks:List z4} (ht:P.underlying t=some (.slice e)) (hF:Qi P n e ks) (hce:P.cellsOf e=ks.length) (hpos:0<ks.length)
    (hof:∀ cs,Zt ks cs→∃ y:α,cs=f y∧ok y) (hlen:∀ y,(f y).length=ks.length) {fuel len cap:Nat} {a:Option Addr} {x:DataW H × List MemPlace}
    (hf:DataW.trod enc P w base spare held fuel t (Value.slice a len cap).cells.toList=some x) :
    ∃ l:List α,len=l.length∧l.length≤cap∧cap≤maxLen∧(∀ y∈l,ok y)∧Jh w a (l.flatMap f):=by
  rcases Go.Deep.open_slice ht hf with ⟨hcs,_⟩ | ⟨a',len',cap',m,n',D,Pl,hcs,_,hle,hmax,hm,_,hel⟩
  · simp [Value.cells] at hcs
    obtain ⟨rfl,rfl,rfl⟩:=hcs
    exact ⟨[],rfl,Nat.le_refl _,Nat.zero_le _,fun x hx=>(by simp at hx),Jh.nil⟩
  · simp [Value.cells] at hcs
    obtain ⟨rfl,rfl,rfl⟩:=hcs
    have hlm:len≤m:=by rw [hm]; split <;> omega
    have hall:∀ i,i<len→∃ y:α,w.cells? base (a'.add (i*ks.length)) ks.length=some (f y)∧ok y:=fun i hi=>by
      obtain ⟨cs,h1,h2⟩:=hel i (by omega)
      rw [hce] at h1
      obtain ⟨y,rfl,hy⟩:=hof _ (qc7 n hF h2)
      exact ⟨y,h1,hy⟩
    obtain ⟨Y,hY⟩:=Go.Deep.choose_lt hall
    refine ⟨(List.range len).map Y,by simp,by simpa using hle,hmax,fun x hx=>?_,Jh.of_spot fun j v hj=>?_⟩
    · obtain ⟨i,hi,rfl⟩:=List.mem_map.1 hx
      exact (hY i (List.mem_range.1 hi)).2
    · have hjl:j<len*ks.length:=by
        have:=(List.getElem?_eq_some_iff.1 hj).1
        rw [Za hlen] at this
        simpa using this
      have hi:j/ks.length<len:=Nat.div_lt_of_lt_mul (by rw [Nat.mul_comm]; exact hjl)
      have hc:=(hY (j/ks.length) hi).1
      obtain ⟨_,_,hcell⟩:=World.cells?_some hc
      have hmod:j%ks.length<ks.length:=Nat.mod_lt _ hpos
      have h1:=hcell (j%ks.length) hmod
      have hk:j%ks.length<(f (Y (j/ks.length))).length:=by rw [hlen]; exact hmod
      have h2:=Xk (l:=(List.range len).map Y) hlen (i:=j/ks.length) (x:=Y (j/ks.length)) (by simp [hi]) (j%ks.length) _ (List.getElem?_eq_getElem hk)
      have hdm:j/ks.length*ks.length+j%ks.length=j:=by rw [Nat.mul_comm]; exact Nat.div_add_mod j ks.length
      rw [hdm] at h2
      rw [hj] at h2
      have aa:∀ (a:Addr) (m n:Nat),(a.add m).add n=a.add (m+n):=fun a m n=>by
        unfold Addr.add
        by_cases hm:m=0
        · subst hm; simp
        · by_cases hn:n=0
          · subst hn; simp [hm]
          · have h:m+n≠0:=by omega
            simp [hm,hn,Nat.add_assoc]
      rw [Option.some.inj h2,← List.getElem?_eq_getElem hk,← h1,aa,hdm]
end
end Go.Sl
namespace Go.Sl
open Go.RowKit
def JN (P:Program) (t:TypeId):Bool :=
  match P.underlying t with
  | some (.struct _) | some (.array _ _)=>true
  | _=>false
def Zm (P:Program) (t:TypeId) (xs:List Value):Value:=if JN P t then .agg xs.toArray else xs.headD undef
section
variable {P:Program}
theorem YE {t:TypeId} {s by_:Nat} {z:Value} {k:z4} (ht:Ty P t k.desc s z by_):JN P t=false:=by
  cases k <;> simp [JN,ht.und,z4.desc]
theorem qb7 {t:TypeId} {s by_:Nat} {z:Value} {k:z4} (ht:Ty P t k.desc s z by_) {xs ys:List Value} (hx:z6 [k] xs) (hy:z6 [k] ys) :
    ∃ r:Bool,(r=true↔xs=ys)∧∀ d w,(Op.equalIn (d+1) t (Zm P t xs) (Zm P t ys)).run P w=.ok r w:=by
  have e1:∀ zs:List Value,z6 [k] zs→∃ v,zs=[v]∧k.like v:=fun zs h=>by
    match zs,h with
    | [v],h=>exact ⟨v,rfl,h.1⟩
  obtain ⟨a,rfl,ha⟩:=e1 xs hx
  obtain ⟨b,rfl,hb⟩:=e1 ys hy
  simp only [Zm,YE ht,Bool.false_eq_true,if_false,List.headD_cons]
  cases k with
  | int q =>
    obtain ⟨m,rfl⟩:=ha
    obtain ⟨m',rfl⟩:=hb
    exact ⟨decide (m=m'),by simp,fun d w=>qgz ht d w⟩
  | bool =>
    obtain ⟨m,rfl⟩:=ha
    obtain ⟨m',rfl⟩:=hb
    exact ⟨m == m',by simp,fun d w=>Jb ht d w⟩
  | string =>
    obtain ⟨m,rfl⟩:=ha
    obtain ⟨m',rfl⟩:=hb
    refine ⟨m.toList == m'.toList,?_,fun d w=>qbw ht d w⟩
    rw [beq_iff_eq,ByteArray.toList_eq,ByteArray.toList_eq]
    obtain ⟨⟨l⟩⟩:=m
    obtain ⟨⟨l'⟩⟩:=m'
    simp
theorem J2 {t:TypeId} {d:TypeDesc} (hu:P.underlying t=some d) (w:World):(isAgg t).run P w=.ok (JN P t) w:=by
  cases d <;> simp [isAgg,run_underlying hu,JN,hu,Result.andThen]
theorem J1 {n:Nat} {t:TypeId} {ks:List z4} (hF:Qi P n t ks) (hc:P.cellsOf t=ks.length) (XS:Array Value) (off:Nat) (hl:z6 ks ((XS.toList.drop off).take ks.length)) (w:World) :
    (part t XS off).run P w=.ok (Zm P t ((XS.toList.drop off).take ks.length)) w:=by
  have leaf:∀ (k:z4) (s by_:Nat) (z:Value),ks=[k]→Ty P t k.desc s z by_→(part t XS off).run P w=.ok (Zm P t ((XS.toList.drop off).take ks.length)) w:=fun k s by_ z e ht=>by
    subst e
    have h1:∃ v,(XS.toList.drop off).take 1=[v]:=by
      have hl':z6 [k] ((XS.toList.drop off).take 1):=hl
      generalize (XS.toList.drop off).take 1=zs at hl'
      match zs,hl' with
      | [v],_=>exact ⟨v,rfl⟩
    obtain ⟨v,hv⟩:=h1
    have hg:=getElem?_of_chunk hv
    simp only [List.length_cons,List.length_nil,Nat.zero_add,hv,Zm,YE ht,Bool.false_eq_true,if_false,List.headD_cons]
    simp [part,J2 ht.und,YE ht,hg,Result.andThen]
  have agg:∀ (d:TypeDesc) (s by_:Nat) (z:Value),Ty P t d s z by_→JN P t=true→(part t XS off).run P w=.ok (Zm P t ((XS.toList.drop off).take ks.length)) w:=fun d s by_ z ht ha=>by
    obtain ⟨i,hi,_⟩:=ht.info
    simp only [Zm,ha,if_true]
    have e:XS.extract off (off+P.cellsOf t)=((XS.toList.drop off).take ks.length).toArray:=by
      rw [← hc]
      apply Array.ext'
      simp
    simp [part,J2 ht.und,ha,run_sizeOf w hi,e,Result.andThen]
  cases n with
  | zero=>obtain ⟨k,s,by_,z,e,ht⟩:=hF; exact leaf k s by_ z e ht
  | succ n =>
    rcases hF with ⟨k,s,by_,z,e,ht⟩ | ⟨s,by_,z,fs,ht,_,_,_⟩ | ⟨m,e,s,by_,z,ls,_,ht,_,_,_⟩
    · exact leaf k s by_ z e ht
    · exact agg _ s by_ z ht (by simp [JN,ht.und])
    · exact agg _ s by_ z ht (by simp [JN,ht.und])
theorem Q5 {ks ls:List z4} {zs:List Value} (h:z6 (ks++ls) zs):z6 ks (zs.take ks.length)∧z6 ls (zs.drop ks.length):=by
  obtain ⟨xs,ys,rfl,h1,h2⟩:=Yb h
  have:=Ya h1
  rw [← this,List.take_left,List.drop_left]
  exact ⟨h1,h2⟩
theorem qgy:∀ (n:Nat) {t:TypeId} {ks:List z4},Qi P n t ks→∀ {xs ys:List Value},z6 ks xs→z6 ks ys →
    ∃ r:Bool,(r=true↔xs=ys)∧∀ d w,(Op.equalIn (d+n+1) t (Zm P t xs) (Zm P t ys)).run P w=.ok r w:=by
  intro n
  induction n with
  | zero =>
    intro t ks hf xs ys hx hy
    obtain ⟨k,s,by_,z,rfl,ht⟩:=hf
    exact qb7 ht hx hy
  | succ n ih =>
    intro t ks hf xs ys hx hy
    rcases hf with ⟨k,s,by_,z,rfl,ht⟩ | ⟨s,by_,z,fs,ht,hp,hc,h⟩ | ⟨m,e,s,by_,z,ls,rfl,ht,hce,hc,h⟩
    · obtain ⟨r,h1,h2⟩:=qb7 ht hx hy
      exact ⟨r,h1,fun d w=>h2 _ w⟩
    · have key:∀ (l:List Field) (off:Nat) (ls:List z4),JT P (Qi P n) l off ls→z6 ls (xs.drop off)→z6 ls (ys.drop off) →
          ∃ r:Bool,(r=true↔xs.drop off=ys.drop off)∧∀ d w,(Op.eqFields (d+n+1) xs.toArray ys.toArray l).run P w=.ok r w:=by
        intro l off ls hl
        induction hl with
        | @nil off =>
          intro h1 h2
          refine ⟨true,?_,fun d w=>by simp [Op.eqFields]⟩
          have e:∀ zs:List Value,z6 [] zs→zs=[]:=fun zs h=>by cases zs with
            | nil=>rfl
            | cons _ _=>exact h.elim
          rw [e _ h1,e _ h2]; simp
        | @cons f fs off ks ls hn ho hcf hF hs ih2 =>
          intro h1 h2
          subst ho
          obtain ⟨a1,a2⟩:=Q5 h1
          obtain ⟨b1,b2⟩:=Q5 h2
          rw [List.drop_drop] at a2 b2
          obtain ⟨r,hr,hrun⟩:=ih hF a1 b1
          obtain ⟨r',hr',hrun'⟩:=ih2 a2 b2
          refine ⟨r && r',?_,fun d w=>?_⟩
          · rw [Bool.and_eq_true,hr,hr']
            constructor
            · rintro ⟨e1,e2⟩
              rw [← List.take_append_drop ks.length (xs.drop f.offset),← List.take_append_drop ks.length (ys.drop f.offset),e1,List.drop_drop,List.drop_drop,e2]
            · intro e
              exact ⟨by rw [e],by rw [← List.drop_drop,← List.drop_drop,e]⟩
          · have p1:=J1 hF hcf xs.toArray f.offset (by simpa using a1) w
            have p2:=J1 hF hcf ys.toArray f.offset (by simpa using b1) w
            simp only [List.toList_toArray] at p1 p2
            simp only [Op.eqFields,if_pos hn,Sem.run_bind,p1,p2,hrun d w,Result.andThen_ok]
            cases r with
            | true=>simpa using hrun' d w
            | false=>simp
      obtain ⟨r,hr,hrun⟩:=key fs.toList 0 ks h (by simpa using hx) (by simpa using hy)
      refine ⟨r,by simpa using hr,fun d w=>?_⟩
      have hfs:P.fieldsOf t=fs:=by simp [Program.fieldsOf,ht.und]
      have ha:JN P t=true:=by simp [JN,ht.und]
      simp only [Zm,ha,if_true]
      rw [run_equalIn_struct w (d+(n+1)) t _ _ (by rw [hfs]; exact ht.und) hp,hfs]
      exact hrun d w
    · have key:∀ (r j:Nat),j+r=m→z6 (List.replicate r ls).flatten (xs.drop (j*ls.length))→z6 (List.replicate r ls).flatten (ys.drop (j*ls.length)) →
          ∃ q:Bool,(q=true↔xs.drop (j*ls.length)=ys.drop (j*ls.length))∧∀ d w,(Op.eqItems (d+n+1) e ls.length xs.toArray ys.toArray (List.range' j r)).run P w=.ok q w:=by
        intro r
        induction r with
        | zero =>
          intro j hj h1 h2
          refine ⟨true,?_,fun d w=>by simp [Op.eqItems]⟩
          have e:∀ zs:List Value,z6 [] zs→zs=[]:=fun zs h=>by cases zs with
            | nil=>rfl
            | cons _ _=>exact h.elim
          simp only [List.replicate_zero,List.flatten_nil] at h1 h2
          rw [e _ h1,e _ h2]; simp
        | succ r ihr =>
          intro j hj h1 h2
          rw [List.replicate_succ,List.flatten_cons] at h1 h2
          obtain ⟨a1,a2⟩:=Q5 h1
          obtain ⟨b1,b2⟩:=Q5 h2
          have ej:(j+1)*ls.length=j*ls.length+ls.length:=by rw [Nat.add_mul,Nat.one_mul]
          rw [List.drop_drop,← ej] at a2 b2
          obtain ⟨q,hq,hrun⟩:=ih h a1 b1
          obtain ⟨q',hq',hrun'⟩:=ihr (j+1) (by omega) a2 b2
          refine ⟨q && q',?_,fun d w=>?_⟩
          · rw [Bool.and_eq_true,hq,hq']
            constructor
            · rintro ⟨e1,e2⟩
              rw [← List.take_append_drop ls.length (xs.drop (j*ls.length)),← List.take_append_drop ls.length (ys.drop (j*ls.length)),e1,List.drop_drop,List.drop_drop,← ej,e2]
            · intro e
              exact ⟨by rw [e],by rw [ej,← List.drop_drop,← List.drop_drop,e]⟩
          · have p1:=J1 h hce xs.toArray (j*ls.length) (by simpa using a1) w
            have p2:=J1 h hce ys.toArray (j*ls.length) (by simpa using b1) w
            simp only [List.toList_toArray] at p1 p2
            simp only [List.range'_succ,Op.eqItems,Sem.run_bind,p1,p2,hrun d w,Result.andThen_ok]
            cases q with
            | true=>simpa using hrun' d w
            | false=>simp
      obtain ⟨q,hq,hrun⟩:=key m 0 (by omega) (by simpa using hx) (by simpa using hy)
      refine ⟨q,by simpa using hq,fun d w=>?_⟩
      have ha:JN P t=true:=by simp [JN,ht.und]
      simp only [Zm,ha,if_true]
      have hie:∃ i,P.info? e=some i:=by
        have:P.underlying e≠none:=by
          cases n with
          | zero=>obtain ⟨k,s,by_,z,_,ht⟩:=h; rw [ht.und]; simp
          | succ n =>
            rcases h with ⟨k,s,by_,z,_,ht⟩ | ⟨s,by_,z,fs,ht,_,_,_⟩ | ⟨m,e,s,by_,z,ls,_,ht,_,_,_⟩ <;> (rw [ht.und]; simp)
        cases hu:P.underlying e with
        | none=>exact absurd hu this
        | some d=>exact info_of_underlying hu
      obtain ⟨i,hi⟩:=hie
      rw [run_equalIn_array w (d+(n+1)) _ _ ht.und hi,hce,List.range_eq_range']
      exact hrun d w
end
section
variable {P:Program} {n:Nat} {env:Env} {x y:Operand} {t u ty:TypeId} {C:World→Prop}
theorem qhp {α:Type} [DecidableEq α] {f:α→List Value} {m:Nat} {ks:List z4} {a b:α} (hx:opv env x=some (.agg (f a).toArray)) (hy:opv env y=some (.agg (f b).toArray)) (hF:Qi P m t ks) (ha:JN P t=true) (hl:∀ z,z6 ks (f z)) (hinj:∀ z z',f z=f z'→z=z') (hm:P.eqGuardType P.depth t=false) (hd:m≤9999) :
    Ex P n env C (.binOp .eql t x y u) ty (.bool (decide (a=b))):=fun a' w d pos aft g ha' _=>by
  obtain ⟨r,hr,hrun⟩:=qgy m hF (hl a) (hl b)
  have h1:=hrun (9999-m) w
  rw [show 9999-m+m+1=10000 by omega] at h1
  simp only [Zm,ha,if_true] at h1
  have e:r=decide (a=b):=by
    rw [Bool.eq_iff_iff,hr,decide_eq_true_eq]
    exact ⟨hinj _ _,fun e=>by rw [e]⟩
  subst e
  simp [execOp,ha'.opv hx,ha'.opv hy,run_eqGuard_agg w .eql t x y _ _ hm,run_eql_struct,h1,Result.andThen]
end
end Go.Sl
namespace Go.Sl
open Go.RowKit
section
variable {P:Program} {ops:Array Oper} {C:World→Prop} {Q:Exit→Act→World→Prop}
def QV (P:Program) (ops:Array Oper) (C:World→Prop) (o:Oper) (v:Value) (a:Act):Prop :=
  QW P ops C o v a∨(Region.wanted o (yielded ops a.tmps)=false∧v=undef)
theorem QV.pass {o o':Oper} {v:Value} {a a':Act} (h:QV P ops C o v a) (hs:Jz P ops o o' a a'):QV P ops C o v a' :=
  h.imp (·.pass hs) fun h=>⟨hs.wanted.trans h.1,h.2⟩
theorem QV.op {i:Nat} {o:Oper} {v:Value} {a:Act} {w:World} {K:Act→World→Prop} (hi:ops[i]?=some o) (hy:QV P ops C o v a) (hw:C w) (h:K (a.put o.dst v) w):wpOpIn (fen none) 0 P ops Q i K a w:=by
  rcases hy with hy | ⟨hy,rfl⟩
  · exact hy.op hi hw h
  · unfold Go.wpOpIn
    simp only [hi,hy,Bool.false_eq_true,if_false]
    exact ⟨fun _ _=>trivial,h⟩
theorem JM {i:Nat} {oi:Oper} {v:Value} (hi:ops[i]?=some oi) (hsel:∀ (j:Nat) (o:Oper) cs b,ops[j]?=some o→o.op≠.select cs b) (hQ:∀ c a w,Q (.panic c) (a.put oi.dst v) w→Q (.panic c) a w) :
    ∀ (f:Nat) (l:Array Bool) (a:Act) (w:World),
      (∀ j oj,ops[j]?=some oj→j≠i→l.getD j true=false→(∀ e∈oj.after,Region.binds .any e=true→e.on≠i)→oi.apart ops oj=true) →
      i∈Region.ready .any ops l→QV P ops C oi v a→Qz P ops C Q f (l.setIfInBounds i true) (a.put oi.dst v) w→Qz P ops C Q (f+1) l a w:=by
  intro f
  induction f with
  | zero =>
    intro l a w _ hr hy H
    refine ⟨H.1,fun h=>(by rw [h] at hr; cases hr),fun j hj=>?_⟩
    by_cases hji:j=i
    · subst hji; exact hy.op hi H.1 H
    · have:=ready_mono hj hji
      rw [H.2.1] at this
      cases this
  | succ f ih =>
    intro l a w hfree hr hy H
    refine ⟨H.1,fun h=>(by rw [h] at hr; cases hr),fun j hj=>?_⟩
    by_cases hji:j=i
    · subst hji; exact hy.op hi H.1 H
    · have h1:=H.2.2 j (ready_mono hj hji)
      obtain ⟨hjun,oj,hoj,hall⟩:=mem_ready.1 hj
      have hnot:∀ e∈oj.after,Region.binds .any e=true→e.on≠i:=fun e he hb heq=>by
        have h1:=hall e he hb
        have h0:=(mem_ready.1 hr).1
        rw [heq] at h1
        rcases Nat.lt_or_ge i l.size with h' | h'
        · simp [h'] at h0 h1; rw [h0] at h1; cases h1
        · simp [Array.getElem?_eq_none h'] at h1
      have h2:=op_putC hoj (hfree j oj hoj hji hjun hnot) (fun cs b=>hsel i oi cs b hi) (fun cs b=>hsel j oj cs b hoj) hQ h1
      have hfree':∀ k ok,ops[k]?=some ok→k≠i→(l.setIfInBounds j true).getD k true=false →
          (∀ e∈ok.after,Region.binds .any e=true→e.on≠i)→oi.apart ops ok=true:=fun k ok hk hki hun hno=>by
        refine hfree k ok hk hki ?_ hno
        by_cases hjk:j=k
        · subst hjk; exact hjun
        · rw [getD_set_ne true hjk] at hun; exact hun
      refine wpOpIn_mono (fun a' w' h3=>ih (l.setIfInBounds j true) a' w' hfree' (ready_mono hr (Ne.symm hji)) (hy.pass h3.1) ?_) h2
      rw [Array.setIfInBounds_comm _ _ hji]
      exact h3.2
end
section
variable {P:Program} {w0:World} {Q:Exit→Act→World→Prop} {n:Nat} {ds:List Deferred} {k:List It} {env env':Env} {H H' Hc:qg} {ops:Array Oper}
theorem qcy (i:Nat) {op:Op} {ty:TypeId} {v:Value} {d j dj:Nat} {b:Bool} {pos:String} {aft:Array Edge} {fuel:Nat} {listed l':Array Bool} (hi:ops[i]?=some ⟨some d,op,ty,pos,aft,some (j,b)⟩) (hs:Region.noSelect ops=true) (hf:Region.free .any ops listed i=true) (hr:(Region.ready .any ops listed).contains i=true)
    (hcall:ZL op=true) (hl:listed.setIfInBounds i true=l') (hj:(ops[j]?).bind (·.dst)=some dj) (ht:look env dj=some (.bool b)) (hx:Ex P n env (Sat w0 Hc) op ty v) (hd:Nat.blt d n=true)
    (h:WC P w0 Q n ds k ops Hc fuel l' ((d,v)::env) H):WC P w0 Q n ds k ops Hc (fuel+1) listed env H:=fun a w ha hds hsat=>by
  subst hl
  have hy:=ha.yielded hj ht
  exact JM hi (Region.noSelect_spec hs) (fun _ _ _ hq=>hq.elim) fuel listed a w (Region.free_spec hi hf) (by simpa using hr)
    (.inl ⟨by simp [Region.wanted,hy],fun w hw=>hx a w _ _ _ _ ha hw,fun w _=>zv hcall w _⟩) (h _ w (ha.put (d:=some d) hd) hds hsat)
end
section
variable {P:Program} {w0:World} {Q:Exit→Act→World→Prop} {n:Nat} {ds:List Deferred} {k:List It} {env:Env} {H:qg} {ops:Array Oper}
end
end Go.Sl
namespace Go.Sl
class Yy (p:Nat × Blk) (H:qg) (H1:outParam qg):Prop where
  out:QK p H H1
instance (priority:=1000) Yy.here {p:Nat × Blk} {H:qg}:Yy p (p::H) H:=⟨.here H⟩
instance (priority:=500) Yy.next {p q:Nat × Blk} {H H1:qg} [h:Yy p H H1]:Yy p (q::H) (q::H1):=⟨.next h.out⟩
instance (priority:=500) Yy.app {p:Nat × Blk} {S H H1:qg} [h:Yy p H H1]:Yy p (S++H) (S++H1):=⟨.app h.out⟩
class ZK (S:qg) (H:qg) (H1:outParam qg):Prop where
  out:qf S H H1
instance (priority:=1000) ZK.here {S H:qg}:ZK S (S++H) H:=⟨.here H⟩
instance (priority:=500) ZK.next {q:Nat × Blk} {S H H1:qg} [h:ZK S H H1]:ZK S (q::H) (q::H1):=⟨.next h.out⟩
instance (priority:=500) ZK.app {S T H H1:qg} [h:ZK S H H1]:ZK S (T++H) (T++H1):=⟨.app h.out⟩
class QC (H H':qg):Prop where
  out:qd H H'
instance (priority:=1000) QC.refl {H:qg}:QC H H:=⟨.refl H⟩
instance (priority:=900) QC.nil {H:qg}:QC H []:=⟨.nil H⟩
instance (priority:=800) QC.cons {p:Nat × Blk} {H H1 H':qg} [t:Yy p H H1] [h:QC H1 H']:QC H (p::H'):=⟨.cons t.out h.out⟩
instance (priority:=800) QC.app {S H H1 H':qg} [t:ZK S H H1] [h:QC H1 H']:QC H (S++H'):=⟨.app t.out h.out⟩
instance (priority:=100) QC.drop {p:Nat × Blk} {H H':qg} [h:QC H H']:QC (p::H) H':=⟨.drop h.out⟩
instance (priority:=100) QC.dropS {S H H':qg} [h:QC H H']:QC (S++H) H':=⟨.dropS h.out⟩
theorem qz {H H':qg} [h:QC H H']:qd H H':=h.out
class qaT (p:Nat × Blk) (H:qg):Prop where
  out:p∈H
instance (priority:=1000) qaT.here {p:Nat × Blk} {H:qg}:qaT p (p::H):=⟨List.mem_cons_self⟩
instance (priority:=500) qaT.next {p q:Nat × Blk} {H:qg} [h:qaT p H]:qaT p (q::H):=⟨List.mem_cons_of_mem _ h.out⟩
instance (priority:=500) qaT.app {p:Nat × Blk} {S H:qg} [h:qaT p H]:qaT p (S++H):=⟨List.mem_append_right _ h.out⟩
end Go.Sl
namespace Go.Sl
open Go.RowKit
inductive FTr where
  | nil
  | node (k v:Nat) (l r:FTr)
def FTr.get:FTr→Nat→Option Nat
  | .nil,_=>none
  | .node k v l r,x=>bif Nat.beq k x then some v else bif Nat.blt x k then l.get x else r.get x
def FTr.Ok (P:Program):FTr→Prop
  | .nil=>True
  | .node k v l r=>(∃ s ag,Fld P (k/64) (k%64) v s ag∧s≠0)∧FTr.Ok P l∧FTr.Ok P r
theorem FTr.Ok.at {P:Program} {x v:Nat}:∀ {T:FTr},T.Ok P→T.get x=some v→∃ s ag,Fld P (x/64) (x%64) v s ag∧s≠0
  | .nil,_,h=>by cases h
  | .node k v' l r,⟨h1,h2,h3⟩,h=>by
    simp only [FTr.get] at h
    cases hk:Nat.beq k x with
    | true =>
      rw [hk] at h
      obtain rfl:=Nat.eq_of_beq_eq_true hk
      cases h; exact h1
    | false =>
      rw [hk] at h
      cases hb:Nat.blt x k with
      | true=>rw [hb] at h; exact h2.at h
      | false=>rw [hb] at h; exact h3.at h
def pv (T:FTr) (env:Env):Op→Option Value
  | .move x=>opv env x
  | .assign x=>opv env x
  | .extract x i=>match opv env x with
    | some (.tuple vs)=>vs[i]?
    | _=>none
  | .nilCheck x=>match opv env x with
    | some (.pointer (some a))=>some (.pointer (some a))
    | some (.func (.func g) fa ca)=>some (.func (.func g) fa ca)
    | _=>none
  | .pick c x y=>match opv env c with
    | some (.bool true)=>opv env x
    | some (.bool false)=>opv env y
    | _=>none
  | .fieldAddr t x f=>match opv env x with
    | some (.pointer (some ⟨b,i,none⟩))=>bif Nat.blt f 64 then (match T.get (64*t+f) with
      | some off=>some (.pointer (some ⟨b,i+off,none⟩))
      | none=>none) else none
    | _=>none
  | .binOp op _ x y _=>match opv env x,opv env y with
    | some (.int q i),some (.int q' j)=>if q=q' then (match op with
      | .eql=>some (.bool (decide (i=j)))
      | .neq=>some (.bool (decide (i≠j)))
      | .lss=>some (.bool (decide (i<j)))
      | .leq=>some (.bool (decide (i≤j)))
      | .gtr=>some (.bool (decide (j<i)))
      | .geq=>some (.bool (decide (j≤i)))
      | _=>none) else none
    | _,_=>none
  | .unOp .not _ x=>match opv env x with
    | some (.bool b)=>some (.bool (!b))
    | _=>none
  | _=>none
theorem qhg (t f:Nat) (h:f<64):(64*t+f)/64=t∧(64*t+f)%64=f:=by omega
theorem qb2 {P:Program} {T:FTr} (hT:T.Ok P) {n:Nat} {env:Env} {op:Op} {ty:TypeId} {v:Value} (h:pv T env op=some v) {C:World→Prop}:Ex P n env C op ty v:=by
  cases op with
  | move x=>exact Jg h
  | assign x=>exact qfb h
  | extract x i =>
    simp only [pv] at h
    split at h
    · rename_i vs hx
      exact qdl hx h
    · cases h
  | nilCheck x =>
    simp only [pv] at h
    split at h
    · rename_i a hx; cases h; exact QT hx
    · rename_i g fa ca hx; cases h; exact qaK hx
    · cases h
  | pick c x y =>
    simp only [pv] at h
    split at h
    · rename_i hc; exact zX hc h
    · rename_i hc; exact zY hc h
    · cases h
  | fieldAddr t x f =>
    simp only [pv] at h
    split at h
    · rename_i b i hx
      cases hf:Nat.blt f 64 with
      | false=>rw [hf] at h; cases h
      | true =>
        rw [hf] at h
        simp only [cond_true] at h
        split at h
        · rename_i off ho
          cases h
          obtain ⟨s,ag,hF,h0⟩:=hT.at ho
          have hf':f<64:=by simpa [Nat.blt_eq] using hf
          rw [(qhg t f hf').1,(qhg t f hf').2] at hF
          exact QB hx hF h0
        · cases h
    · cases h
  | binOp op t x y u =>
    simp only [pv] at h
    split at h
    · rename_i q i q' j hx hy
      split at h
      · rename_i hq
        subst hq
        cases op <;> first | (cases h; done) | (cases h; first | exact Qo hx hy qhn | exact Qo hx hy qhj | exact Qo hx hy qhl | exact Qo hx hy qe0 | exact Qo hx hy qe1 | exact Qo hx hy qhm)
      · cases h
    · cases h
  | unOp o t x =>
    cases o <;> simp only [pv] at h <;> try cases h
    split at h
    · rename_i b hx; cases h; exact X_not hx
    · cases h
  | _=>cases h
theorem qbd {T:FTr} {env:Env} {op:Op} {v:Value} (h:pv T env op=some v):∀ c,op≠.defer c:=by
  rintro c rfl; cases h
theorem Kt {T:FTr} {env:Env} {op:Op} {v:Value} (h:pv T env op=some v):ZL op=true:=by
  cases op <;> first | rfl | (cases h; done)
def st1 (T:FTr) (n:Nat):List It→Env→Option (List It × Env)
  | .ops _ []::k,env=>some (k,env)
  | .ops all (⟨some d,op,_,_,_,none⟩::rest)::k,env=>match pv T env op with
    | some v=>bif Nat.blt d n then some (.ops all rest::k,(d,v)::env) else none
    | none=>none
  | .ops all (⟨d,op,t,p,aft,some (j,b)⟩::rest)::k,env=>match (all.toList[j]?).bind (·.dst) with
    | some dj=>match look env dj with
      | some (.bool b')=>bif b' == b then some (.ops all (⟨d,op,t,p,aft,none⟩::rest)::k,env) else bif dok n d then some (.ops all rest::k,put d undef env) else none
      | _=>none
    | none=>none
  | .code (.seq (.region _ ⟨l⟩ false) y)::k,env=>some (.ops l.toArray l::.code y::k,env)
  | .code (.seq x y)::k,env=>some (.code x::.code y::k,env)
  | .code (.region _ ⟨l⟩ false)::k,env=>some (.ops l.toArray l::k,env)
  | .code .skip::k,env=>some (k,env)
  | .code (.block id c)::k,env=>some (.code c::.blk id::k,env)
  | .blk _::k,env=>some (k,env)
  | .code (.cond c x y)::k,env=>match opv env c with
    | some (.bool true)=>some (.code x::k,env)
    | some (.bool false)=>some (.code y::k,env)
    | _=>none
  | .code (.exit id)::k,env=>match KE id k with
    | some k'=>some (k',env)
    | none=>none
  | _,_=>none
def st (T:FTr) (n:Nat):Nat→List It→Env→Option (List It × Env)
  | 0,k,env=>some (k,env)
  | f+1,k,env=>match st1 T n k env with
    | some (k',env')=>st T n f k' env'
    | none=>none
section
variable {P:Program} {rd:Option Nat} {w0:World} {Q:Exit→Act→World→Prop} {n:Nat} {ds:List Deferred} {k k':List It} {env env':Env} {H:qg} {T:FTr}
theorem W_st1 (hT:T.Ok P) (h:st1 T n k env=some (k',env')) (hW:W P rd w0 Q n ds k' env' H):W P rd w0 Q n ds k env H:=by
  unfold st1 at h
  split at h
  · cases h; exact qA hW
  · rename_i all d op t p aft rest k
    split at h
    · rename_i v hv
      cases hd:Nat.blt d n with
      | false=>rw [hd] at h; cases h
      | true =>
        rw [hd] at h; cases h
        exact W_x (qb2 hT hv) (qbd hv) hd hW
    · cases h
  · rename_i all d op t p aft j b rest k
    split at h
    · rename_i dj hj
      have hj':(all[j]?).bind (·.dst)=some dj:=by rw [← hj]; simp
      split at h
      · rename_i b' hb
        cases hbb:(b' == b) with
        | true =>
          rw [hbb] at h; cases h
          obtain rfl:b'=b:=by simpa using hbb
          exact qr hj' hb hW
        | false =>
          rw [hbb] at h
          simp only [cond_false] at h
          cases hd:dok n d with
          | false=>rw [hd] at h; cases h
          | true =>
            rw [hd] at h; cases h
            exact W_gno hj' (by rw [hb]; cases b <;> cases b' <;> first | rfl | cases hbb) hd hW
      · cases h
    · cases h
  · cases h; exact zr hW
  · cases h; exact qcs hW
  · cases h; exact X9 hW
  · cases h; exact qfd hW
  · cases h; exact qgV hW
  · cases h; exact W_blk hW
  · split at h
    · rename_i hc; cases h; exact qgT hc rfl hW
    · rename_i hc; cases h; exact KY hc rfl hW
    · cases h
  · split at h
    · rename_i k' he; cases h; exact qbL he hW
    · cases h
  · cases h
theorem W_st (hT:T.Ok P) (f:Nat) {k k':List It} {env env':Env} (h:st T n f k env=some (k',env')) (hW:W P rd w0 Q n ds k' env' H):W P rd w0 Q n ds k env H:=by
  induction f generalizing k env with
  | zero=>cases h; exact hW
  | succ f ih =>
    unfold st at h
    split at h
    · rename_i k1 e1 h1
      exact W_st1 hT h1 (ih h)
    · cases h
end
def sq (T:FTr) (n:Nat) (ops:Array Oper):Nat→List Oper→Env→Option (List Oper × Env)
  | 0,l,env=>some (l,env)
  | f+1,⟨some d,op,_,_,_,none⟩::rest,env=>match pv T env op with
    | some v=>bif Nat.blt d n then sq T n ops f rest ((d,v)::env) else none
    | none=>none
  | f+1,⟨d,op,t,p,aft,some (j,b)⟩::rest,env=>match (ops.toList[j]?).bind (·.dst) with
    | some dj=>match look env dj with
      | some (.bool b')=>bif b' == b then sq T n ops f (⟨d,op,t,p,aft,none⟩::rest) env else bif dok n d then sq T n ops f rest (put d undef env) else none
      | _=>none
    | none=>none
  | _+1,_,_=>none
section
variable {P:Program} {w0:World} {Q:Exit→Act→World→Prop} {n:Nat} {ds:List Deferred} {k:List It} {env env':Env} {H Hc:qg} {T:FTr} {ops:Array Oper} {l l':List Oper}
theorem WQ_sq (hT:T.Ok P) (f:Nat) {l l':List Oper} {env env':Env} (h:sq T n ops f l env=some (l',env')) (hW:WQ P w0 Q n ds k ops l' env' H):WQ P w0 Q n ds k ops l env H:=by
  induction f generalizing l env with
  | zero=>cases h; exact hW
  | succ f ih =>
    unfold sq at h
    split at h
    · rename_i he; cases he
    · rename_i f' d op t p aft rest he
      cases he
      split at h
      · rename_i v hv
        cases hd:Nat.blt d n with
        | false=>rw [hd] at h; cases h
        | true =>
          rw [hd] at h
          exact qE (qb2 hT hv) hd (ih h)
      · cases h
    · rename_i f' d op t p aft j b rest he
      cases he
      split at h
      · rename_i dj hj
        have hj':(ops[j]?).bind (·.dst)=some dj:=by rw [← hj]; simp
        split at h
        · rename_i b' hb
          cases hbb:(b' == b) with
          | true =>
            rw [hbb] at h
            obtain rfl:b'=b:=by simpa using hbb
            exact qgW hj' hb (ih h)
          | false =>
            rw [hbb] at h
            simp only [cond_false] at h
            cases hd:dok n d with
            | false=>rw [hd] at h; cases h
            | true =>
              rw [hd] at h
              exact qic hj' hb hbb hd (ih h)
        · cases h
      · cases h
    · cases h
def scO (ops:Array Oper):List Nat→Array Bool→Bool
  | [],_=>true
  | i::is,listed=>Region.free .any ops listed i && (Region.ready .any ops listed).contains i && scO ops is (listed.setIfInBounds i true)
def scL:List Nat→Array Bool→Array Bool
  | [],l=>l
  | i::is,l=>scL is (l.setIfInBounds i true)
def scV (T:FTr) (n:Nat) (ops:Array Oper):List Nat→Env→Option Env
  | [],env=>some env
  | i::is,env=>match ops.toList[i]? with
    | some ⟨some d,op,_,_,_,none⟩=>match pv T env op with
      | some v=>bif Nat.blt d n then scV T n ops is ((d,v)::env) else none
      | none=>none
    | some ⟨some d,op,_,_,_,some (j,b)⟩=>match (ops.toList[j]?).bind (·.dst) with
      | some dj=>match look env dj with
        | some (.bool b')=>bif b' == b then (match pv T env op with
          | some v=>bif Nat.blt d n then scV T n ops is ((d,v)::env) else none
          | none=>none) else none
        | _=>none
      | none=>none
    | _=>none
theorem WC_sc (hT:T.Ok P) (is:List Nat) {listed:Array Bool} {m m':Nat} {env env':Env} (hs:Region.noSelect ops=true) (ho:scO ops is listed=true) (h:scV T n ops is env=some env') (hm:m=m'+is.length)
    (hW:WC P w0 Q n ds k ops Hc m' (scL is listed) env' H):WC P w0 Q n ds k ops Hc m listed env H:=by
  induction is generalizing listed m env with
  | nil=>cases h; cases hm; exact hW
  | cons i is ih =>
    obtain rfl:m=(m'+is.length)+1:=hm
    simp only [scO,Bool.and_eq_true] at ho
    obtain ⟨⟨h1,h2⟩,h3⟩:=ho
    unfold scV at h
    split at h
    · rename_i d op t p aft hi
      split at h
      · rename_i v hv
        cases hd:Nat.blt d n with
        | false=>rw [hd] at h; cases h
        | true =>
          rw [hd] at h
          exact zg i (by rw [← hi]; simp) hs h1 h2 (Kt hv) rfl (qb2 hT hv) hd (ih h3 h rfl hW)
      · cases h
    · rename_i d op t p aft j b hi
      split at h
      · rename_i dj hj
        split at h
        · rename_i b' hb
          cases hbb:(b' == b) with
          | false=>rw [hbb] at h; cases h
          | true =>
            rw [hbb] at h
            obtain rfl:b'=b:=by simpa using hbb
            simp only [cond_true] at h
            split at h
            · rename_i v hv
              cases hd:Nat.blt d n with
              | false=>rw [hd] at h; cases h
              | true =>
                rw [hd] at h
                exact qcy i (by rw [← hi]; simp) hs h1 h2 (Kt hv) rfl (by rw [← hj]; simp) hb (qb2 hT hv) hd (ih h3 h rfl hW)
            · cases h
        · cases h
      · cases h
    · cases h
end
class FTI (P:Program) where
  T:FTr
  ok:T.Ok P
section
variable {P:Program} [i:FTI P] {rd:Option Nat} {w0:World} {Q:Exit→Act→World→Prop} {n:Nat} {ds:List Deferred} {k k':List It} {env env':Env} {H Hc:qg} {ops:Array Oper} {l l':List Oper}
theorem za (f:Nat) (h:st i.T n f k env=some (k',env')) (hW:W P rd w0 Q n ds k' env' H):W P rd w0 Q n ds k env H:=W_st i.ok f h hW
theorem zq (f:Nat) (h:sq i.T n ops f l env=some (l',env')) (hW:WQ P w0 Q n ds k ops l' env' H):WQ P w0 Q n ds k ops l env H:=WQ_sq i.ok f h hW
theorem zw (is:List Nat) {listed:Array Bool} {m m':Nat} (h:scV i.T n ops is env=some env') (hm:m=m'+is.length) (hW:WC P w0 Q n ds k ops Hc m' (scL is listed) env' H) (hs:Region.noSelect ops=true:=by decide +kernel) (ho:scO ops is listed=true:=by decide +kernel):WC P w0 Q n ds k ops Hc m listed env H:=WC_sc i.ok is hs ho h hm hW
end
end Go.Sl
namespace Go.Sl
open Go.RowKit
section
variable {P:Program} {ops:Array Oper} {C C2:World→Prop} {Q:Exit→Act→World→Prop} {s:Nat}
def Jf (P:Program) (ops:Array Oper) (C C2:World→Prop) (Q:Exit→Act→World→Prop) (s:Nat):Nat→Array Bool→Act→World→Prop
  | 0,l,a,w=>C w∧Region.ready .any ops l=[]∧Q .normal a w
  | f+1,l,a,w=>C w∧(Region.ready .any ops l=[]→Q .normal a w)∧(∀ i∈Region.ready .any ops l,i≠s→wpOpIn (fen none) 0 P ops Q i (Jf P ops C C2 Q s f (l.setIfInBounds i true)) a w) ∧
      (s∈Region.ready .any ops l→wpOpIn (fen none) 0 P ops Q s (Qz P ops C2 Q f (l.setIfInBounds s true)) a w)
theorem Jf.here {f:Nat} {l:Array Bool} {a:Act} {w:World} (h:Jf P ops C C2 Q s f l a w):C w:=by
  cases f <;> exact h.1
theorem Jf.any:∀ {f:Nat} {l:Array Bool} {a:Act} {w:World},Jf P ops C C2 Q s f l a w→wpAnyIn (fen none) 0 P .any ops Q f l a w
  | 0,_,_,_,h=>h.2
  | f+1,l,_,_,h=>⟨h.2.1,fun i hi=>by
    by_cases e:i=s
    · subst e; exact wpOpIn_mono (fun _ _ h=>h.any) (h.2.2.2 hi)
    · exact wpOpIn_mono (fun _ _ h=>h.any) (h.2.2.1 i hi e)⟩
theorem X8 {i:Nat} {oi:Oper} {v:Value} (hi:ops[i]?=some oi) (his:i≠s) (hsel:∀ (j:Nat) (o:Oper) cs b,ops[j]?=some o→o.op≠.select cs b) (hQ:∀ c a w,Q (.panic c) (a.put oi.dst v) w→Q (.panic c) a w) :
    ∀ (f:Nat) (l:Array Bool) (a:Act) (w:World),
      (∀ j oj,ops[j]?=some oj→j≠i→l.getD j true=false→(∀ e∈oj.after,Region.binds .any e=true→e.on≠i)→oi.apart ops oj=true) →
      i∈Region.ready .any ops l→QW P ops C oi v a→((∃ os e,ops[s]?=some os∧e∈os.after∧Region.binds .any e=true∧e.on=i)∨QW P ops C2 oi v a)→Jf P ops C C2 Q s f (l.setIfInBounds i true) (a.put oi.dst v) w→Jf P ops C C2 Q s (f+1) l a w:=by
  intro f
  induction f with
  | zero =>
    intro l a w _ hr hy _ H
    refine ⟨H.1,fun h=>(by rw [h] at hr; cases hr),fun j hj hjs=>?_,fun hj=>?_⟩
    · by_cases hji:j=i
      · subst hji; exact hy.op hi H.1 H
      · have:=ready_mono hj hji
        rw [H.2.1] at this
        cases this
    · have:=ready_mono hj (Ne.symm his)
      rw [H.2.1] at this
      cases this
  | succ f ih =>
    intro l a w hfree hr hy hc H
    have notOf:∀ j oj,j∈Region.ready .any ops l→ops[j]?=some oj→∀ e∈oj.after,Region.binds .any e=true→e.on≠i:=fun j oj hj hoj e he hb heq=>by
      obtain ⟨_,oj',hoj',hall⟩:=mem_ready.1 hj
      obtain rfl:oj=oj':=Option.some.inj (hoj.symm.trans hoj')
      have h1:=hall e he hb
      have h0:=(mem_ready.1 hr).1
      rw [heq] at h1
      rcases Nat.lt_or_ge i l.size with h' | h'
      · simp [h'] at h0 h1; rw [h0] at h1; cases h1
      · simp [Array.getElem?_eq_none h'] at h1
    have free':∀ j,∀ k ok,ops[k]?=some ok→k≠i→(l.setIfInBounds j true).getD k true=false →
          (∀ e∈ok.after,Region.binds .any e=true→e.on≠i)→oi.apart ops ok=true:=fun j k ok hk hki hun hno=>by
      refine hfree k ok hk hki ?_ hno
      by_cases hjk:j=k
      · subst hjk
        rcases Nat.lt_or_ge j l.size with h' | h'
        · simp [h'] at hun
        · simp [Array.getElem?_eq_none h'] at hun
      · rw [getD_set_ne true hjk] at hun; exact hun
    refine ⟨H.1,fun h=>(by rw [h] at hr; cases hr),fun j hj hjs=>?_,fun hj=>?_⟩
    · by_cases hji:j=i
      · subst hji; exact hy.op hi H.1 H
      · have h1:=H.2.2.1 j (ready_mono hj hji) hjs
        obtain ⟨hjun,oj,hoj,hall⟩:=mem_ready.1 hj
        have h2:=op_putC hoj (hfree j oj hoj hji hjun (notOf j oj hj hoj)) (fun cs b=>hsel i oi cs b hi) (fun cs b=>hsel j oj cs b hoj) hQ h1
        refine wpOpIn_mono (fun a' w' h3=>ih (l.setIfInBounds j true) a' w' (free' j) (ready_mono hr (Ne.symm hji)) (hy.pass h3.1) (hc.imp id (·.pass h3.1)) ?_) h2
        rw [Array.setIfInBounds_comm _ _ hji]
        exact h3.2
    · have hji:s≠i:=Ne.symm his
      have h1:=H.2.2.2 (ready_mono hj hji)
      obtain ⟨hjun,oj,hoj,hall⟩:=mem_ready.1 hj
      rcases hc with ⟨os,e,hos,he,hb,heq⟩ | hc
      · exact absurd heq (notOf s os hj hos e he hb)
      · have h2:=op_putC hoj (hfree s oj hoj hji hjun (notOf s oj hj hoj)) (fun cs b=>hsel i oi cs b hi) (fun cs b=>hsel s oj cs b hoj) hQ h1
        refine wpOpIn_mono (fun a' w' h3=>ZF hi hsel hQ f (l.setIfInBounds s true) a' w' (free' s) (ready_mono hr (Ne.symm hji)) (hc.pass h3.1) ?_) h2
        rw [Array.setIfInBounds_comm _ _ hji]
        exact h3.2
end
section
variable {P:Program} {w0:World} {Q:Exit→Act→World→Prop} {n:Nat} {ds:List Deferred} {k:List It} {env env':Env} {H H' Hc:qg} {ops:Array Oper} {s:Nat}
def WS (P:Program) (w0:World) (Q:Exit→Act→World→Prop) (n:Nat) (ds:List Deferred) (k:List It) (ops:Array Oper) (Hc:qg) (s fuel:Nat) (listed:Array Bool) (env:Env) (H:qg):Prop :=
  ∀ a w,qL n env a→a.defers=ds→Sat w0 H w→Jf P ops (Sat w0 Hc) (Sat w0 []) (Q0 P Q k) s fuel listed a w
theorem qfg {id:Nat} {l:List Oper} (Hc:qg) (s:Nat) (hm:P.follows .mixedOrders=true) (h:WS P w0 Q n ds k l.toArray Hc s l.length (Array.replicate l.length false) env H):W P none w0 Q n ds (.code (.region id l.toArray true)::k) env H:=by
  intro a w ha hd hs
  show (Code.region id l.toArray true).wpIn (fen none) 0 P (zC P none Q k) a w
  exact wpIn_mono (wpIn_region_any hm (by simpa using (h a _ ha hd hs.drew).any)) fun _ _ _=>qfk
def KU (ops:Array Oper) (s i:Nat):Bool :=
  match ops[s]? with
  | some os=>os.after.any fun e=>Region.binds .any e && Nat.beq e.on i
  | none=>false
theorem KT {i:Nat} (h:KU ops s i=true):∃ os e,ops[s]?=some os∧e∈os.after∧Region.binds .any e=true∧e.on=i:=by
  unfold KU at h
  cases ho:ops[s]? with
  | none=>rw [ho] at h; cases h
  | some os =>
    rw [ho] at h
    obtain ⟨e,he,hb⟩:=Array.any_eq_true'.1 h
    rw [Bool.and_eq_true] at hb
    exact ⟨os,e,rfl,he,hb.1,Nat.eq_of_beq_eq_true hb.2⟩
theorem z3 (i:Nat) {op:Op} {ty:TypeId} {v:Value} {d:Nat} {pos:String} {aft:Array Edge} {fuel:Nat} {listed l':Array Bool} (hi:ops[i]?=some ⟨some d,op,ty,pos,aft,none⟩) (his:Nat.beq i s=false) (hs:Region.noSelect ops=true) (hf:Region.free .any ops listed i=true) (hr:(Region.ready .any ops listed).contains i=true)
    (hdep:KU ops s i=true) (hcall:ZL op=true) (hl:listed.setIfInBounds i true=l') (hx:Ex P n env (Sat w0 Hc) op ty v) (hd:Nat.blt d n=true)
    (h:WS P w0 Q n ds k ops Hc s fuel l' ((d,v)::env) H):WS P w0 Q n ds k ops Hc s (fuel+1) listed env H:=fun a w ha hds hsat=>by
  subst hl
  exact X8 hi (fun e=>by rw [e] at his; simp at his) (Region.noSelect_spec hs) (fun _ _ _ hq=>hq.elim) fuel listed a w (Region.free_spec hi hf) (by simpa using hr)
    ⟨by simp [Region.wanted],fun w hw=>hx a w _ _ _ _ ha hw,fun w _=>zv hcall w _⟩ (.inl (KT hdep)) (h _ w (ha.put (d:=some d) hd) hds hsat)
theorem qaQ (i:Nat) {op:Op} {ty:TypeId} {v:Value} {d:Nat} {pos:String} {aft:Array Edge} {fuel:Nat} {listed l':Array Bool} (hi:ops[i]?=some ⟨some d,op,ty,pos,aft,none⟩) (his:Nat.beq i s=false) (hs:Region.noSelect ops=true) (hf:Region.free .any ops listed i=true) (hr:(Region.ready .any ops listed).contains i=true)
    (hcall:ZL op=true) (hl:listed.setIfInBounds i true=l') (hx:Ex P n env (fun _=>True) op ty v) (hd:Nat.blt d n=true)
    (h:WS P w0 Q n ds k ops Hc s fuel l' ((d,v)::env) H):WS P w0 Q n ds k ops Hc s (fuel+1) listed env H:=fun a w ha hds hsat=>by
  subst hl
  exact X8 hi (fun e=>by rw [e] at his; simp at his) (Region.noSelect_spec hs) (fun _ _ _ hq=>hq.elim) fuel listed a w (Region.free_spec hi hf) (by simpa using hr)
    ⟨by simp [Region.wanted],fun w hw=>hx a w _ _ _ _ ha trivial,fun w _=>zv hcall w _⟩ (.inr ⟨by simp [Region.wanted],fun w hw=>hx a w _ _ _ _ ha trivial,fun w _=>zv hcall w _⟩) (h _ w (ha.put (d:=some d) hd) hds hsat)
theorem Ka (i:Nat) {o:Oper} {fuel:Nat} {listed l':Array Bool} (hh:qd H Hc) (his:Nat.beq i s=false) (hr:Region.ready .any ops listed=[i]) (hi:ops[i]?=some o) (hl:listed.setIfInBounds i true=l')
    (h:W P none w0 (fun _ _ _=>False) n ds [.ops ops [o],.goal (fun a w=>Jf P ops (Sat w0 Hc) (Sat w0 []) (Q0 P Q k) s fuel l' a w)] env H):WS P w0 Q n ds k ops Hc s (fuel+1) listed env H:=fun a w ha hds hsat=>by
  subst hl
  have hne:i≠s:=fun e=>by rw [e] at his; simp at his
  refine ⟨hsat.hsub hh,fun h0=>(by rw [hr] at h0; cases h0),fun j hj _=>?_,fun hj=>?_⟩
  · rw [hr] at hj
    obtain rfl:j=i:=by simpa using hj
    exact qdt hi (h a w ha hds hsat)
  · rw [hr] at hj
    exact absurd (by simpa using hj:s=i).symm hne
theorem qcx {o:Oper} {fuel:Nat} {listed l':Array Bool} (hh:qd H Hc) (hr:Region.ready .any ops listed=[s]) (hi:ops[s]?=some o) (hl:listed.setIfInBounds s true=l')
    (h:W P none w0 (fun _ _ _=>False) n ds [.ops ops [o],.goal (fun a w=>Qz P ops (Sat w0 []) (Q0 P Q k) fuel l' a w)] env H):WS P w0 Q n ds k ops Hc s (fuel+1) listed env H:=fun a w ha hds hsat=>by
  subst hl
  refine ⟨hsat.hsub hh,fun h0=>(by rw [hr] at h0; cases h0),fun j hj hjs=>?_,fun hj=>qdt hi (h a w ha hds hsat)⟩
  rw [hr] at hj
  exact absurd (by simpa using hj) hjs
theorem Yv {fuel:Nat} {l':Array Bool} {k':List It} {Q':Exit→Act→World→Prop} (h:WS P w0 Q n ds k ops Hc s fuel l' env H):W P none w0 Q' n ds (.goal (fun a w=>Jf P ops (Sat w0 Hc) (Sat w0 []) (Q0 P Q k) s fuel l' a w)::k') env H :=
  YP fun a w ha hd hs=>h a w ha hd hs
end
end Go.Sl
namespace Go.Sl.Rd
open Go.RowKit
def noDefer (ops:Array Oper):Bool:=ops.all fun o=>match o.op with | .defer _=>false | _=>true
theorem noDefer_spec {ops:Array Oper} (h:noDefer ops=true) (j:Nat) (o:Oper) (hj:ops[j]?=some o) (c:Call):o.op≠.defer c:=fun e=>by
  have:=Array.all_eq_true'.1 h o (Array.mem_of_getElem? hj)
  rw [e] at this; cases this
def Q0 (rd:Option Nat) (P:Program) (Q:Exit→Act→World→Prop) (k:List It):Exit→Act→World→Prop
  | .normal,a,w=>zC P rd Q k .normal a w
  | _,_,_=>False
section
variable {rd:Option Nat} {P:Program} {ops:Array Oper} {C:World→Prop} {Q:Exit→Act→World→Prop}
def Qz (rd:Option Nat) (P:Program) (ops:Array Oper) (C:World→Prop) (Q:Exit→Act→World→Prop):Nat→Array Bool→Act→World→Prop
  | 0,l,a,w=>C w∧Region.ready .any ops l=[]∧Q .normal a w
  | f+1,l,a,w=>C w∧(Region.ready .any ops l=[]→Q .normal a w)∧∀ i∈Region.ready .any ops l,wpOpIn (fen rd) 0 P ops Q i (Qz rd P ops C Q f (l.setIfInBounds i true)) a w
theorem Qz.here {f:Nat} {l:Array Bool} {a:Act} {w:World} (h:Qz rd P ops C Q f l a w):C w:=by
  cases f <;> exact h.1
theorem Qz.any:∀ {f:Nat} {l:Array Bool} {a:Act} {w:World},Qz rd P ops C Q f l a w→wpAnyIn (fen rd) 0 P .any ops Q f l a w
  | 0,_,_,_,h=>h.2
  | f+1,_,_,_,h=>⟨h.2.1,fun i hi=>wpOpIn_mono (fun _ _ h=>h.any) (h.2.2 i hi)⟩
theorem Xr {i:Nat} {o:Oper} {v:Value} {a:Act} {w:World} {K:Act→World→Prop} (hi:ops[i]?=some o) (hnd:∀ c,o.op≠.defer c) (hy:QW P ops C o v a) (hw:C w) (h:K (a.put o.dst v) w):wpOpIn (fen rd) 0 P ops Q i K a w:=by
  unfold Go.wpOpIn
  simp only [hi,hy.wanted,if_true,Oper.wpIn,Oper.semAt_eq _ _ _ hnd,hy.run w hw,Oper.uponIn]
  exact ⟨fun f hf=>(by rw [hy.about w hw] at hf; cases hf),h⟩
theorem op_putC {j:Nat} {oi oj:Oper} {v:Value} (hj:ops[j]?=some oj) (hnd:∀ c,oj.op≠.defer c) (hap:oi.apart ops oj=true) (hsi:∀ cs b,oi.op≠.select cs b) (hsj:∀ cs b,oj.op≠.select cs b)
    (hQ:∀ c a w,Q (.panic c) (a.put oi.dst v) w→Q (.panic c) a w) {K:Act→World→Prop} {a:Act} {w:World} (h:wpOpIn (fen rd) 0 P ops Q j K (a.put oi.dst v) w) :
    wpOpIn (fen rd) 0 P ops Q j (fun a' w'=>Jz P ops oi oj a a'∧K (a'.put oi.dst v) w') a w:=by
  obtain ⟨h1,h2,h3⟩:=Oper.apart_spec hap
  have keep:∀ u,Jz P ops oi oj a (a.put oj.dst u):=fun u=>⟨execOp_put oi hsi a oj.dst u h3,wanted_put oi a oj.dst u h3,fun w=>about_put oi w a oj.dst u h3⟩
  have keepD:∀ d u,Jz P ops oi oj a (Act.put { a with defers:=d::a.defers } oj.dst u):=fun d u=>by
    have h:=(⟨execOp_put oi hsi { a with defers:=d::a.defers } oj.dst u h3,wanted_put oi { a with defers:=d::a.defers } oj.dst u h3,fun w=>about_put oi w { a with defers:=d::a.defers } oj.dst u h3⟩:Jz P ops oi oj { a with defers:=d::a.defers } _)
    exact ⟨h.run,h.wanted,h.about⟩
  unfold wpOpIn at *
  simp only [hj] at *
  rw [wanted_put oj a oi.dst v h1,about_put oj w a oi.dst v h1] at h
  split
  · rename_i hw
    simp only [hw,if_true] at h
    unfold Oper.wpIn at *
    rw [about_put oj w a oi.dst v h1] at h
    refine ⟨h.1,?_⟩
    have h:=h.2
    rw [Oper.semAt_eq _ _ _ hnd,execOp_put oj hsj a oi.dst v h1] at h
    rw [Oper.semAt_eq _ _ _ hnd]
    generalize (execOp a.eval oj).run P w=r at *
    cases r with
    | ok x w' =>
      cases x <;> simp only [Oper.uponIn] at h ⊢
      case value u=>exact ⟨keep u,by rw [← Act.put_comm a v u h2]; exact h⟩
      case skip=>exact ⟨keep _,by rw [← Act.put_comm a v undef h2]; exact h⟩
      case defer d =>
        refine ⟨keepD d _,?_⟩
        rw [← Act.put_comm _ v undef h2,← Act.put_defers]
        exact h
      case enter f args =>
        refine ⟨h.1,CallsIn.mono h.2 fun e w'' he=>?_⟩
        cases e with
        | returned u=>exact ⟨keep u,by rw [← Act.put_comm a v u h2]; exact he⟩
        | panicked c=>exact hQ _ _ _ he
        | outgrown=>exact he
      case row row args=>exact ⟨h.1,RowsIn.mono h.2 fun u w'' he=>⟨keep u,by rw [← Act.put_comm a v u h2]; exact he⟩⟩
      case round l f tmps assign body =>
        refine ⟨h.1,RoundIn.mono h.2 fun e w'' he=>?_⟩
        cases e with
        | returned u=>exact ⟨keep u,by rw [← Act.put_comm a v u h2]; exact he⟩
        | panicked c=>exact hQ _ _ _ he
        | outgrown=>exact he
    | halt x w' =>
      cases x <;> simp only [Oper.uponIn] at h ⊢
      case panic u=>exact hQ _ _ _ h
  · rename_i hw
    simp only [hw] at h
    exact ⟨h.1,keep _,by rw [← Act.put_comm a v undef h2]; exact h.2⟩
theorem ZF {i:Nat} {oi:Oper} {v:Value} (hi:ops[i]?=some oi) (hsel:∀ (j:Nat) (o:Oper) cs b,ops[j]?=some o→o.op≠.select cs b) (hnd:∀ (j:Nat) (o:Oper),ops[j]?=some o→∀ c,o.op≠.defer c) (hQ:∀ c a w,Q (.panic c) (a.put oi.dst v) w→Q (.panic c) a w) :
    ∀ (f:Nat) (l:Array Bool) (a:Act) (w:World),
      (∀ j oj,ops[j]?=some oj→j≠i→l.getD j true=false→(∀ e∈oj.after,Region.binds .any e=true→e.on≠i)→oi.apart ops oj=true) →
      i∈Region.ready .any ops l→QW P ops C oi v a→Qz rd P ops C Q f (l.setIfInBounds i true) (a.put oi.dst v) w→Qz rd P ops C Q (f+1) l a w:=by
  intro f
  induction f with
  | zero =>
    intro l a w _ hr hy H
    refine ⟨H.1,fun h=>(by rw [h] at hr; cases hr),fun j hj=>?_⟩
    by_cases hji:j=i
    · subst hji; exact Xr hi (hnd _ _ hi) hy H.1 H
    · have:=ready_mono hj hji
      rw [H.2.1] at this
      cases this
  | succ f ih =>
    intro l a w hfree hr hy H
    refine ⟨H.1,fun h=>(by rw [h] at hr; cases hr),fun j hj=>?_⟩
    by_cases hji:j=i
    · subst hji; exact Xr hi (hnd _ _ hi) hy H.1 H
    · have h1:=H.2.2 j (ready_mono hj hji)
      obtain ⟨hjun,oj,hoj,hall⟩:=mem_ready.1 hj
      have hnot:∀ e∈oj.after,Region.binds .any e=true→e.on≠i:=fun e he hb heq=>by
        have h1:=hall e he hb
        have h0:=(mem_ready.1 hr).1
        rw [heq] at h1
        rcases Nat.lt_or_ge i l.size with h' | h'
        · simp [h'] at h0 h1; rw [h0] at h1; cases h1
        · simp [Array.getElem?_eq_none h'] at h1
      have h2:=op_putC hoj (hnd _ _ hoj) (hfree j oj hoj hji hjun hnot) (fun cs b=>hsel i oi cs b hi) (fun cs b=>hsel j oj cs b hoj) hQ h1
      have hfree':∀ k ok,ops[k]?=some ok→k≠i→(l.setIfInBounds j true).getD k true=false →
          (∀ e∈ok.after,Region.binds .any e=true→e.on≠i)→oi.apart ops ok=true:=fun k ok hk hki hun hno=>by
        refine hfree k ok hk hki ?_ hno
        by_cases hjk:j=k
        · subst hjk; exact hjun
        · rw [getD_set_ne true hjk] at hun; exact hun
      refine wpOpIn_mono (fun a' w' h3=>ih (l.setIfInBounds j true) a' w' hfree' (ready_mono hr (Ne.symm hji)) (hy.pass h3.1) ?_) h2
      rw [Array.setIfInBounds_comm _ _ hji]
      exact h3.2
end
section
variable {rd:Option Nat} {P:Program} {w0:World} {Q:Exit→Act→World→Prop} {n:Nat} {ds:List Deferred} {k:List It} {env env':Env} {H H' Hc:qg} {ops:Array Oper}
def WC (rd:Option Nat) (P:Program) (w0:World) (Q:Exit→Act→World→Prop) (n:Nat) (ds:List Deferred) (k:List It) (ops:Array Oper) (Hc:qg) (fuel:Nat) (listed:Array Bool) (env:Env) (H:qg):Prop :=
  ∀ a w,qL n env a→a.defers=ds→Sat w0 H w→Qz rd P ops (Sat w0 Hc) (Q0 rd P Q k) fuel listed a w
theorem zg (i:Nat) {op:Op} {ty:TypeId} {v:Value} {d:Nat} {pos:String} {aft:Array Edge} {fuel:Nat} {listed l':Array Bool} (hi:ops[i]?=some ⟨some d,op,ty,pos,aft,none⟩) (hs:Region.noSelect ops=true) (hnd:noDefer ops=true) (hf:Region.free .any ops listed i=true) (hr:(Region.ready .any ops listed).contains i=true)
    (hcall:ZL op=true) (hl:listed.setIfInBounds i true=l') (hx:Ex P n env (Sat w0 Hc) op ty v) (hd:Nat.blt d n=true)
    (h:WC rd P w0 Q n ds k ops Hc fuel l' ((d,v)::env) H):WC rd P w0 Q n ds k ops Hc (fuel+1) listed env H:=fun a w ha hds hsat=>by
  subst hl
  exact ZF hi (Region.noSelect_spec hs) (noDefer_spec hnd) (fun _ _ _ hq=>hq.elim) fuel listed a w (Region.free_spec hi hf) (by simpa using hr)
    ⟨by simp [Region.wanted],fun w hw=>hx a w _ _ _ _ ha hw,fun w _=>zv hcall w _⟩ (h _ w (ha.put (d:=some d) hd) hds hsat)
end
section
variable {rd:Option Nat} {P:Program} {ops:Array Oper} {C:World→Prop} {Q:Exit→Act→World→Prop}
theorem takesG_op {i:Nat} {o:Oper} {v:Value} {a:Act} {w:World} {K:Act→World→Prop} (hi:ops[i]?=some o) (hnd:∀ c,o.op≠.defer c) (hy:QV P ops C o v a) (hw:C w) (h:K (a.put o.dst v) w):wpOpIn (fen rd) 0 P ops Q i K a w:=by
  rcases hy with hy | ⟨hy,rfl⟩
  · exact Xr hi hnd hy hw h
  · unfold Go.wpOpIn
    simp only [hi,hy,Bool.false_eq_true,if_false]
    exact ⟨fun _ _=>trivial,h⟩
theorem JM {i:Nat} {oi:Oper} {v:Value} (hi:ops[i]?=some oi) (hsel:∀ (j:Nat) (o:Oper) cs b,ops[j]?=some o→o.op≠.select cs b) (hnd:∀ (j:Nat) (o:Oper),ops[j]?=some o→∀ c,o.op≠.defer c) (hQ:∀ c a w,Q (.panic c) (a.put oi.dst v) w→Q (.panic c) a w) :
    ∀ (f:Nat) (l:Array Bool) (a:Act) (w:World),
      (∀ j oj,ops[j]?=some oj→j≠i→l.getD j true=false→(∀ e∈oj.after,Region.binds .any e=true→e.on≠i)→oi.apart ops oj=true) →
      i∈Region.ready .any ops l→QV P ops C oi v a→Qz rd P ops C Q f (l.setIfInBounds i true) (a.put oi.dst v) w→Qz rd P ops C Q (f+1) l a w:=by
  intro f
  induction f with
  | zero =>
    intro l a w _ hr hy H
    refine ⟨H.1,fun h=>(by rw [h] at hr; cases hr),fun j hj=>?_⟩
    by_cases hji:j=i
    · subst hji; exact takesG_op hi (hnd _ _ hi) hy H.1 H
    · have:=ready_mono hj hji
      rw [H.2.1] at this
      cases this
  | succ f ih =>
    intro l a w hfree hr hy H
    refine ⟨H.1,fun h=>(by rw [h] at hr; cases hr),fun j hj=>?_⟩
    by_cases hji:j=i
    · subst hji; exact takesG_op hi (hnd _ _ hi) hy H.1 H
    · have h1:=H.2.2 j (ready_mono hj hji)
      obtain ⟨hjun,oj,hoj,hall⟩:=mem_ready.1 hj
      have hnot:∀ e∈oj.after,Region.binds .any e=true→e.on≠i:=fun e he hb heq=>by
        have h1:=hall e he hb
        have h0:=(mem_ready.1 hr).1
        rw [heq] at h1
        rcases Nat.lt_or_ge i l.size with h' | h'
        · simp [h'] at h0 h1; rw [h0] at h1; cases h1
        · simp [Array.getElem?_eq_none h'] at h1
      have h2:=op_putC hoj (hnd _ _ hoj) (hfree j oj hoj hji hjun hnot) (fun cs b=>hsel i oi cs b hi) (fun cs b=>hsel j oj cs b hoj) hQ h1
      have hfree':∀ k ok,ops[k]?=some ok→k≠i→(l.setIfInBounds j true).getD k true=false →
          (∀ e∈ok.after,Region.binds .any e=true→e.on≠i)→oi.apart ops ok=true:=fun k ok hk hki hun hno=>by
        refine hfree k ok hk hki ?_ hno
        by_cases hjk:j=k
        · subst hjk; exact hjun
        · rw [getD_set_ne true hjk] at hun; exact hun
      refine wpOpIn_mono (fun a' w' h3=>ih (l.setIfInBounds j true) a' w' hfree' (ready_mono hr (Ne.symm hji)) (hy.pass h3.1) ?_) h2
      rw [Array.setIfInBounds_comm _ _ hji]
      exact h3.2
end
section
variable {rd:Option Nat} {P:Program} {w0:World} {Q:Exit→Act→World→Prop} {n:Nat} {ds:List Deferred} {k:List It} {env env':Env} {H H' Hc:qg} {ops:Array Oper}
theorem qcy (i:Nat) {op:Op} {ty:TypeId} {v:Value} {d j dj:Nat} {b:Bool} {pos:String} {aft:Array Edge} {fuel:Nat} {listed l':Array Bool} (hi:ops[i]?=some ⟨some d,op,ty,pos,aft,some (j,b)⟩) (hs:Region.noSelect ops=true) (hnd:noDefer ops=true) (hf:Region.free .any ops listed i=true) (hr:(Region.ready .any ops listed).contains i=true)
    (hcall:ZL op=true) (hl:listed.setIfInBounds i true=l') (hj:(ops[j]?).bind (·.dst)=some dj) (ht:look env dj=some (.bool b)) (hx:Ex P n env (Sat w0 Hc) op ty v) (hd:Nat.blt d n=true)
    (h:WC rd P w0 Q n ds k ops Hc fuel l' ((d,v)::env) H):WC rd P w0 Q n ds k ops Hc (fuel+1) listed env H:=fun a w ha hds hsat=>by
  subst hl
  have hy:=ha.yielded hj ht
  exact JM hi (Region.noSelect_spec hs) (noDefer_spec hnd) (fun _ _ _ hq=>hq.elim) fuel listed a w (Region.free_spec hi hf) (by simpa using hr)
    (.inl ⟨by simp [Region.wanted,hy],fun w hw=>hx a w _ _ _ _ ha hw,fun w _=>zv hcall w _⟩) (h _ w (ha.put (d:=some d) hd) hds hsat)
end
section
variable {rd:Option Nat} {P:Program} {ops:Array Oper} {C C2:World→Prop} {Q:Exit→Act→World→Prop} {s:Nat}
def Jf (rd:Option Nat) (P:Program) (ops:Array Oper) (C C2:World→Prop) (Q:Exit→Act→World→Prop) (s:Nat):Nat→Array Bool→Act→World→Prop
  | 0,l,a,w=>C w∧Region.ready .any ops l=[]∧Q .normal a w
  | f+1,l,a,w=>C w∧(Region.ready .any ops l=[]→Q .normal a w)∧(∀ i∈Region.ready .any ops l,i≠s→wpOpIn (fen rd) 0 P ops Q i (Jf rd P ops C C2 Q s f (l.setIfInBounds i true)) a w) ∧
      (s∈Region.ready .any ops l→wpOpIn (fen rd) 0 P ops Q s (Qz rd P ops C2 Q f (l.setIfInBounds s true)) a w)
theorem Jf.here {f:Nat} {l:Array Bool} {a:Act} {w:World} (h:Jf rd P ops C C2 Q s f l a w):C w:=by
  cases f <;> exact h.1
theorem Jf.any:∀ {f:Nat} {l:Array Bool} {a:Act} {w:World},Jf rd P ops C C2 Q s f l a w→wpAnyIn (fen rd) 0 P .any ops Q f l a w
  | 0,_,_,_,h=>h.2
  | f+1,l,_,_,h=>⟨h.2.1,fun i hi=>by
    by_cases e:i=s
    · subst e; exact wpOpIn_mono (fun _ _ h=>h.any) (h.2.2.2 hi)
    · exact wpOpIn_mono (fun _ _ h=>h.any) (h.2.2.1 i hi e)⟩
end
section
variable {rd:Option Nat} {P:Program} {w0:World} {Q:Exit→Act→World→Prop} {n:Nat} {ds:List Deferred} {k:List It} {env env':Env} {H H' Hc:qg} {ops:Array Oper} {s:Nat}
def WS (rd:Option Nat) (P:Program) (w0:World) (Q:Exit→Act→World→Prop) (n:Nat) (ds:List Deferred) (k:List It) (ops:Array Oper) (Hc:qg) (s fuel:Nat) (listed:Array Bool) (env:Env) (H:qg):Prop :=
  ∀ a w,qL n env a→a.defers=ds→Sat w0 H w→Jf rd P ops (Sat w0 Hc) (Sat w0 []) (Q0 rd P Q k) s fuel listed a w
end
end Go.Sl.Rd
namespace Go.Sl
open Go.RowKit
open Go.ChangeMaps (setBlock)
structure Yz (P:Program) (K:TypeId) {α:Type} [DecidableEq α] (kf:α→Value):Prop where
  check:∀ (b:Bool) (a:α) (w:World),(Instr.checkKey b 10000 K (kf a)).run P w=.ok () w
  same:∃ d,P.underlying K=some d∧∀ a a',Instr.sameNow d (kf a) (kf a')=some (decide (a=a'))
  stays:∀ (a:α) (w:World),(Instr.keyThatStays (kf a) (kf a)).run P w=.ok (kf a) w
theorem Xi {P:Program} {K:TypeId} {q:IntKind} (h:P.underlying K=some (.int q)):Yz P K (Value.int q) where
  check b a w:=MapKept.run_checkKey (d:=.int q) h (show MapKept.IsKey (.int q) (.int q a) from rfl) b 9999
  same:=⟨_,h,fun a a'=>by simp [Instr.sameNow,Bool.beq_eq_decide_eq]⟩
  stays a w:=by simp [Instr.keyThatStays,Instr.sameBits]
section
variable {α:Type} [DecidableEq α]
abbrev Zl (α:Type):=List (α × Value × Nat)
def entO (kf:α→Value) (p:α × Value × Nat):MapEntry:=⟨kf p.1,p.2.1,p.2.2⟩
def JE (kf:α→Value) (l:Zl α) (c:Nat):Obj:=.map (l.map (entO kf)).toArray c
structure ZP (l:Zl α) (c:Nat):Prop where
  keys:(l.map (·.1)).Nodup
  born:(l.map (·.2.2)).Nodup
  lt:∀ p∈l,p.2.2<c
def Kf (l:Zl α) (a:α):Option Nat:=l.findIdx? (fun p=>decide (a=p.1))
def XF (l:Zl α) (a:α):Option Value:=(l.find? (fun p=>decide (a=p.1))).map (·.2.1)
def XE (l:Zl α) (a:α):Bool:=l.any (fun p=>decide (a=p.1))
def mPut (l:Zl α) (c:Nat) (a:α) (v:Value):Zl α:=if XE l a then l.map (fun p=>if a=p.1 then (p.1,v,p.2.2) else p) else l++[(a,v,c)]
def mClk (l:Zl α) (c:Nat) (a:α):Nat:=if XE l a then c else c+1
theorem ZP.nil (c:Nat):ZP ([]:Zl α) c:=⟨List.nodup_nil,List.nodup_nil,fun _ h=>by cases h⟩
theorem qan {l:Zl α} {a:α}:XE l a=true↔a∈l.map (·.1):=by
  unfold XE
  rw [List.any_eq_true,List.mem_map]
  exact ⟨fun ⟨p,hp,h⟩=>⟨p,hp,(of_decide_eq_true h).symm⟩,fun ⟨p,hp,h⟩=>⟨p,hp,decide_eq_true h.symm⟩⟩
theorem ZP.put {l:Zl α} {c:Nat} (h:ZP l c) (a:α) (v:Value):ZP (mPut l c a v) (mClk l c a):=by
  unfold mPut mClk
  cases hh:XE l a with
  | true =>
    simp only [if_true]
    have e1:(l.map (fun p=>if a=p.1 then (p.1,v,p.2.2) else p)).map (·.1)=l.map (·.1):=by
      rw [List.map_map]; apply List.map_congr_left; intro p _; simp only [Function.comp]; split <;> rfl
    have e2:(l.map (fun p=>if a=p.1 then (p.1,v,p.2.2) else p)).map (·.2.2)=l.map (·.2.2):=by
      rw [List.map_map]; apply List.map_congr_left; intro p _; simp only [Function.comp]; split <;> rfl
    refine ⟨by rw [e1]; exact h.keys,by rw [e2]; exact h.born,fun p hp=>?_⟩
    obtain ⟨q,hq,rfl⟩:=List.mem_map.1 hp
    have:=h.lt q hq
    split <;> exact this
  | false =>
    simp only [Bool.false_eq_true,if_false]
    have hn:a ∉ l.map (·.1):=fun hm=>by rw [qan.2 hm] at hh; cases hh
    refine ⟨?_,?_,fun p hp=>?_⟩
    · rw [List.map_append]
      refine List.nodup_append.2 ⟨h.keys,by simp,fun x hx y hy=>?_⟩
      have hy':y=a:=by simpa using hy
      subst hy'
      exact fun e=>hn (e ▸ hx)
    · rw [List.map_append]
      refine List.nodup_append.2 ⟨h.born,by simp,fun x hx y hy=>?_⟩
      have hy':y=c:=by simpa using hy
      subst hy'
      obtain ⟨p,hp,rfl⟩:=List.mem_map.1 hx
      have:=h.lt p hp
      exact fun e=>by omega
    · rcases List.mem_append.1 hp with hp | hp
      · have:=h.lt p hp; omega
      · obtain rfl:p=(a,v,c):=by simpa using hp
        exact Nat.lt_succ_self c
theorem qaz {d:TypeDesc} {kf:α→Value} (hs:∀ a a',Instr.sameNow d (kf a) (kf a')=some (decide (a=a'))) (a:α):∀ (l:Zl α) (i:Nat),
    Instr.findNow d (kf a) (l.map (entO kf)) i=some ((Kf l a).map fun j=>(i+j,((l[j]?).map (·.2.1)).getD undef))
  | [],i=>by simp [Instr.findNow,Kf]
  | p::l,i=>by
    simp only [List.map_cons,Instr.findNow,entO,hs]
    by_cases h:a=p.1
    · simp [h,Kf,List.findIdx?_cons]
    · simp only [decide_eq_false h]
      rw [qaz hs a l (i+1)]
      simp only [Kf,List.findIdx?_cons,decide_eq_false h,Bool.false_eq_true,if_false,Option.map_map]
      congr 2
      funext j
      simp only [Function.comp,List.getElem?_cons_succ]
      congr 1
      omega
theorem qat {l:Zl α} {a:α} {j:Nat} (h:Kf l a=some j):∃ p,l[j]?=some p∧a=p.1∧l.find? (fun p=>decide (a=p.1))=some p:=by
  unfold Kf at h
  obtain ⟨hj,h1,h2⟩:=List.findIdx?_eq_some_iff_getElem.1 h
  refine ⟨l[j],List.getElem?_eq_getElem hj,of_decide_eq_true h1,?_⟩
  rw [List.find?_eq_some_iff_getElem]
  exact ⟨h1,j,hj,rfl,fun i hi=>by simpa using h2 i hi⟩
theorem qef {l:Zl α} {a:α} (h:Kf l a=none):XE l a=false∧l.find? (fun p=>decide (a=p.1))=none:=by
  unfold Kf at h
  rw [List.findIdx?_eq_none_iff] at h
  refine ⟨?_,List.find?_eq_none.2 fun p hp=>by simpa using h p hp⟩
  unfold XE
  rw [List.any_eq_false]
  intro p hp
  simpa using h p hp
theorem qf7 {l:Zl α} {a:α} {j:Nat} (h:Kf l a=some j):XE l a=true:=by
  obtain ⟨p,hp,e,_⟩:=qat h
  exact qan.2 (e ▸ List.mem_map.2 ⟨p,List.mem_of_getElem? hp,rfl⟩)
end
section
variable {P:Program} {rd:Option Nat} {w0:World} {Q:Exit→Act→World→Prop} {n:Nat} {ds:List Deferred} {k:List It} {env env':Env} {H H':qg} {all:Array Oper} {rest:List Oper}
variable {d:Nat} {x y z c:Operand} {t u ty K E:TypeId} {pos:String} {aft:Array Edge} {v:Value} {s by_:Nat} {tz:Value}
variable {α:Type} [DecidableEq α] {kf:α→Value} {l:Zl α} {cl b:Nat} {a:α}
theorem ZZ {w0 w:World} {r:Nat} {o:Obj} (h:w0.heap.size≤r):Below w0.heap.size w (setBlock w r o) :=
  ⟨rfl,rfl,rfl,by simp [setBlock],fun k hk=>by simp only [setBlock]; rw [Array.getElem?_setIfInBounds_ne (by omega)]⟩
theorem YO (hd:Nat.blt d n=true) (h:∀ b:Nat,W P rd w0 Q n ds (.ops all rest::k) ((d,.map (some b))::env) ((b,.obj (JE kf [] 0))::H)) :
    W P rd w0 Q n ds (.ops all (⟨some d,.makeMap t none,ty,pos,aft,none⟩::rest)::k) env H :=
  Jy rfl nofun hd fun a w ha hs=>⟨.map (some w.heap.size),(w.heap.size,.obj (JE kf [] 0))::H,w.alloc (.map #[] 0),.inl (by simp [execOp,run_makeMap,Result.andThen]),hs.alloc _ (At.alloc_obj w _),h w.heap.size⟩
theorem qa3 (hk:Yz P K kf) (ht:Ty P t (.map K E) s tz by_) {zE:Value} (hz:∀ w,(zeroValue E).run P w=.ok zE w) {w:World} (hb:w.heap[b]?=some (JE kf l cl)) (ok:Bool) :
    (Instr.lookup t (.map (some b)) (kf a) ok).run P w=.ok (if ok then .tuple #[(XF l a).getD zE,.bool (XE l a)] else (XF l a).getD zE) w:=by
  obtain ⟨dK,hu,hsame⟩:=hk.same
  have hf:=MapKept.run_findKey (P:=P) (w:=w) hu (qaz hsame a l 0)
  simp only [Instr.lookup,Sem.run_bind,ht.run,Result.andThen,MapKept.run_getObj_map hb,Sem.run_pure,hk.check,hf]
  cases hi:Kf l a with
  | none =>
    obtain ⟨h1,h2⟩:=qef hi
    simp only [Option.map_none,Sem.run_bind,hz,Result.andThen,Sem.run_pure,XF,h2,Option.getD_none,h1]
  | some j =>
    obtain ⟨p,hp,e,hfd⟩:=qat hi
    simp only [Option.map_some,hp,Option.getD_some,Sem.run_pure,Result.andThen,XF,hfd,qf7 hi]
    cases ok <;> rfl
theorem qe9 {ok:Bool} (hx:opv env x=some (.map (some b))) (hy:opv env y=some (kf a)) (hk:Yz P K kf) (ht:Ty P t (.map K E) s tz by_) {zE:Value} (hz:∀ w,(zeroValue E).run P w=.ok zE w) (hm:(b,Blk.obj (JE kf l cl))∈H) :
    Ex P n env (Sat w0 H) (.lookup t x y ok) ty (if ok then .tuple #[(XF l a).getD zE,.bool (XE l a)] else (XF l a).getD zE):=fun a' w d pos aft g ha hs=>by
  have hb:w.heap[b]?=some (JE kf l cl):=(hs.own _ hm).2
  simp [execOp,ha.opv hx,ha.opv hy,qa3 hk ht hz hb,Result.andThen]
theorem qff {ok:Bool} (hx:opv env x=some (.map (some b))) (hy:opv env y=some (kf a)) (hk:Yz P K kf) (ht:Ty P t (.map K E) s tz by_) {zE:Value} (hz:∀ w,(zeroValue E).run P w=.ok zE w) (hm:(b,Blk.obj (JE kf l cl))∈H) (hd:Nat.blt d n=true)
    (h:W P rd w0 Q n ds (.ops all rest::k) ((d,if ok then .tuple #[(XF l a).getD zE,.bool (XE l a)] else (XF l a).getD zE)::env) H) :
    W P rd w0 Q n ds (.ops all (⟨some d,.lookup t x y ok,ty,pos,aft,none⟩::rest)::k) env H :=
  q5 rfl nofun hd (fun a' w ha hs=>qe9 hx hy hk ht hz hm a' w (some d) pos aft none ha hs) h
end
end Go.Sl
namespace Go.Sl.Ev
open Go.RowKit
inductive AV where
  | vl (x:Value)
  | pt (b i:Nat)
  | sl (b o len cap:Nat)
  /-- of a block whose capacity is not known: 'lo' elements are cut off in front -/
  | sz (b lo o len:Nat)
  /-- an empty slice,not nil,of a place that is not known -/
  | em
  | fn (g:FuncId) (fa ca:List AV)
  | yi (l:Nat)
  | mh (b:Nat)
  | tu (l:List AV)
  | ag (l:List AV)
  deriving Inhabited
inductive Tr (α:Type) where
  | u (x:α)
  | n (l r:Tr α)
noncomputable def Tr.get {α:Type} (t:Tr α):Nat→α:=Tr.rec (motive:=fun _=>Nat→α) (fun x _=>x) (fun _ _ gl gr i=>bif Nat.beq (i%2) 0 then gl (i/2) else gr (i/2)) t
theorem Tr.get_u {α:Type} (x:α) (i:Nat):(Tr.u x).get i=x:=rfl
theorem Tr.get_n {α:Type} (l r:Tr α) (i:Nat):(Tr.n l r).get i=bif Nat.beq (i%2) 0 then l.get (i/2) else r.get (i/2):=rfl
noncomputable def Tr.mkl {α:Type} (t r:Tr α):Tr α:=match t with
  | .u x=>.n (.u x) r
  | .n a b=>.n (.n a b) r
noncomputable def Tr.mkr {α:Type} (l t:Tr α):Tr α:=match t with
  | .u x=>.n l (.u x)
  | .n a b=>.n l (.n a b)
theorem Tr.mkl_eq {α:Type} (t r:Tr α):Tr.mkl t r=.n t r:=by cases t <;> rfl
theorem Tr.mkr_eq {α:Type} (l t:Tr α):Tr.mkr l t=.n l t:=by cases t <;> rfl
noncomputable def Tr.set {α:Type} (d:Nat):Tr α→Nat→α→Tr α:=Nat.rec (motive:=fun _=>Tr α→Nat→α→Tr α) (fun _ _ v=>.u v)
  (fun _ ih t i v=>Tr.casesOn (motive:=fun _=>Tr α) t (fun x=>bif Nat.beq (i%2) 0 then Tr.mkl (ih (.u x) (i/2) v) (.u x) else Tr.mkr (.u x) (ih (.u x) (i/2) v))
    (fun l r=>bif Nat.beq (i%2) 0 then Tr.mkl (ih l (i/2) v) r else Tr.mkr l (ih r (i/2) v))) d
theorem Tr.set_0 {α:Type} (t:Tr α) (i:Nat) (v:α):Tr.set 0 t i v=.u v:=rfl
theorem Tr.set_u {α:Type} (d:Nat) (x:α) (i:Nat) (v:α):Tr.set (d+1) (.u x) i v=bif Nat.beq (i%2) 0 then .n (Tr.set d (.u x) (i/2) v) (.u x) else .n (.u x) (Tr.set d (.u x) (i/2) v):=by show (bif _ then Tr.mkl _ _ else Tr.mkr _ _)=_; rw [Tr.mkl_eq,Tr.mkr_eq]; rfl
theorem Tr.set_n {α:Type} (d:Nat) (l r:Tr α) (i:Nat) (v:α):Tr.set (d+1) (.n l r) i v=bif Nat.beq (i%2) 0 then .n (Tr.set d l (i/2) v) r else .n l (Tr.set d r (i/2) v):=by show (bif _ then Tr.mkl _ _ else Tr.mkr _ _)=_; rw [Tr.mkl_eq,Tr.mkr_eq]; rfl
theorem Tr.get_set {α:Type}:∀ (d:Nat) (t:Tr α) (i j:Nat) (v:α),i<2 ^ d→j<2 ^ d→(Tr.set d t i v).get j=if i=j then v else t.get j
  | 0,t,i,j,v,hi,hj=>by
    have:i=j:=by omega
    simp [Tr.set_0,Tr.get_u,this]
  | d+1,t,i,j,v,hi,hj=>by
    have hi2:i/2<2 ^ d:=by have:=Nat.pow_succ 2 d; omega
    have hj2:j/2<2 ^ d:=by have:=Nat.pow_succ 2 d; omega
    have key:=fun t'=>Tr.get_set d t' (i/2) (j/2) v hi2 hj2
    have bt:∀ {n:Nat},n%2=0→Nat.beq (n%2) 0=true:=fun h=>by rw [h]; rfl
    have bf:∀ {n:Nat},¬ n%2=0→Nat.beq (n%2) 0=false:=fun h=>zz h
    have fin:∀ {x y:α},(i%2=0↔j%2=0)→(if i/2=j/2 then x else y)=if i=j then x else y:=fun h=>by
      by_cases e:i/2=j/2
      · rw [if_pos e,if_pos (by omega)]
      · rw [if_neg e,if_neg (by omega)]
    cases t <;> by_cases h1:i%2=0 <;> by_cases h2:j%2=0 <;> (first | have b1:=bt h1 | have b1:=bf h1) <;> (first | have b2:=bt h2 | have b2:=bf h2) <;>
      simp only [Tr.set_u,Tr.set_n,Tr.get_u,Tr.get_n,b1,b2,cond_true,cond_false,key] <;> first | exact fin (by omega) | rw [if_neg (by omega)]
noncomputable def nth {α:Type}:List α→Nat→Option α
  | [],_=>none
  | x::_,0=>some x
  | _::l,i+1=>nth l i
theorem Zf {α:Type}:∀ (l:List α) (i:Nat),nth l i=l[i]?
  | [],_=>by simp [nth]
  | x::l,0=>by simp [nth]
  | x::l,i+1=>by simp [nth,Zf l i]
structure qp where
  n:Nat
  t:Tr (Option AV)
noncomputable def qp.get (E:qp) (x:Nat):Option AV:=bif Nat.blt x E.n && Nat.blt x 512 then E.t.get x else none
noncomputable def qp.set (E:qp) (x:Nat) (v:AV):qp:=bif Nat.blt x E.n && Nat.blt x 512 then ⟨E.n,E.t.set 9 x (some v)⟩ else E
abbrev qp.length (E:qp):Nat:=E.n
theorem qp.get_lt {E:qp} {x:Nat} {v:AV} (h:E.get x=some v):x<E.n∧x<512:=by
  unfold qp.get at h
  cases hb:(Nat.blt x E.n && Nat.blt x 512) with
  | false=>rw [hb] at h; cases h
  | true =>
    obtain ⟨h1,h2⟩:=(Bool.and_eq_true _ _).mp hb
    exact ⟨by simpa [Nat.blt_eq] using h1,by simpa [Nat.blt_eq] using h2⟩
theorem qp.set_n (E:qp) (x:Nat) (v:AV):(E.set x v).n=E.n:=by
  unfold qp.set
  cases hb:(Nat.blt x E.n && Nat.blt x 512) <;> rfl
theorem qp.get_set {E:qp} {x y:Nat} {v u:AV} (h:(E.set x v).get y=some u):(x=y∧u=v∧x<E.n)∨(x≠y∧E.get y=some u)∨(¬ x<E.n∧E.get y=some u)∨(¬ x<512∧E.get y=some u):=by
  have hlt:=qp.get_lt h
  rw [qp.set_n] at hlt
  unfold qp.set at h
  cases hb:(Nat.blt x E.n && Nat.blt x 512) with
  | false =>
    rw [hb] at h
    rcases Bool.and_eq_false_iff.1 hb with h1 | h1
    · exact .inr (.inr (.inl ⟨fun e=>(by rw [(Nat.blt_eq (x:=x) (y:=E.n)).mpr e] at h1; cases h1),h⟩))
    · exact .inr (.inr (.inr ⟨fun e=>(by rw [(Nat.blt_eq (x:=x) (y:=512)).mpr e] at h1; cases h1),h⟩))
  | true =>
    rw [hb] at h
    obtain ⟨h1,h2⟩:=(Bool.and_eq_true _ _).mp hb
    have h1':x<E.n:=by simpa [Nat.blt_eq] using h1
    have h2':x<512:=by simpa [Nat.blt_eq] using h2
    simp only [cond_true] at h
    have hy1:Nat.blt y E.n=true:=(Nat.blt_eq (x:=y) (y:=E.n)).mpr hlt.1
    have hy2:Nat.blt y 512=true:=(Nat.blt_eq (x:=y) (y:=512)).mpr hlt.2
    unfold qp.get at h ⊢
    simp only [hy1,hy2,Bool.and_self,cond_true] at h ⊢
    rw [Tr.get_set 9 _ _ _ _ (by simpa using h2') (by simpa using hlt.2)] at h
    by_cases e:x=y
    · rw [if_pos e] at h; exact .inl ⟨e,(Option.some.inj h).symm,h1'⟩
    · rw [if_neg e] at h; exact .inr (.inl ⟨e,h⟩)
inductive Ob where
  | dead
  | c (ty:TypeId) (l:List AV)
  /-- cells behind an append: more than 'l' may be there; 'es' cells an element -/
  | w (ty:TypeId) (es:Nat) (l:List AV)
  | loop (st:LoopState) (pend:Option Code) (ps:List Nat) (asg body:Code) (E:qp) (m:Nat)
  | mark
  | mp (l:List (Value × AV))
structure St where
  nb:Nat
  hp:Tr Ob
noncomputable def HD:Nat:=12
noncomputable def St.ob (s:St) (b:Nat):Ob:=s.hp.get b
noncomputable def St.new (s:St) (o:Ob):Option (Nat × St):=bif Nat.blt s.nb 4096 then some (s.nb,⟨s.nb+1,s.hp.set HD s.nb o⟩) else none
noncomputable def St.put (s:St) (b:Nat) (o:Ob):St:=⟨s.nb,s.hp.set HD b o⟩
abbrev Rho:=List (Nat × Nat)
mutual
noncomputable def AV.R (ρ:Rho):AV→Value→Prop
  | .vl x,y=>y=x
  | .pt b i,y=>∃ r c,ρ[b]?=some (r,c)∧y=.pointer (some ⟨r,i,none⟩)
  | .sl b o n k,y=>∃ r c,ρ[b]?=some (r,c)∧y=.slice (some ⟨r,o,none⟩) n k
  | .sz b lo o n,y=>∃ r c,ρ[b]?=some (r,c)∧y=.slice (some ⟨r,o,none⟩) n (c-lo)∧lo+n≤c
  | .em,y=>∃ ad k,y=.slice (some ad) 0 k
  | .fn g fa ca,y=>∃ fa' ca',y=.func (.func g) fa' ca'∧AV.Rs ρ fa fa'.toList∧AV.Rs ρ ca ca'.toList
  | .yi l,y=>∃ r c,ρ[l]?=some (r,c)∧y=.func (.yield r) #[] #[]
  | .mh b,y=>∃ r c,ρ[b]?=some (r,c)∧y=.map (some r)
  | .tu l,y=>∃ l',y=.tuple l'∧AV.Rs ρ l l'.toList
  | .ag l,y=>∃ l',y=.agg l'∧AV.Rs ρ l l'.toList
noncomputable def AV.Rs (ρ:Rho):List AV→List Value→Prop
  | [],[]=>True
  | x::l,y::m=>AV.R ρ x y∧AV.Rs ρ l m
  | _,_=>False
end
theorem zQ {ρ ρ':Rho} (h:ρ <+: ρ') {b:Nat} {x:Nat × Nat} (hb:ρ[b]?=some x):ρ'[b]?=some x:=by
  obtain ⟨t,rfl⟩:=h
  rw [List.getElem?_append_left (List.getElem?_eq_some_iff.1 hb).1]; exact hb
mutual
theorem AV.R.mono {ρ ρ':Rho} (h:ρ <+: ρ'):∀ {x:AV} {y:Value},AV.R ρ x y→AV.R ρ' x y
  | .vl _,_,hr=>hr
  | .pt _ _,_,hr=>by obtain ⟨r,c,h1,h2⟩:=hr; exact ⟨r,c,zQ h h1,h2⟩
  | .sl _ _ _ _,_,hr=>by obtain ⟨r,c,h1,h2⟩:=hr; exact ⟨r,c,zQ h h1,h2⟩
  | .sz _ _ _ _,_,hr=>by obtain ⟨r,c,h1,h2⟩:=hr; exact ⟨r,c,zQ h h1,h2⟩
  | .em,_,hr=>hr
  | .fn _ _ _,_,hr=>by obtain ⟨fa',ca',h1,h2,h3⟩:=hr; exact ⟨fa',ca',h1,AV.Rs.mono h h2,AV.Rs.mono h h3⟩
  | .yi _,_,hr=>by obtain ⟨r,c,h1,h2⟩:=hr; exact ⟨r,c,zQ h h1,h2⟩
  | .mh _,_,hr=>by obtain ⟨r,c,h1,h2⟩:=hr; exact ⟨r,c,zQ h h1,h2⟩
  | .tu _,_,hr=>by obtain ⟨l',h1,h2⟩:=hr; exact ⟨l',h1,AV.Rs.mono h h2⟩
  | .ag _,_,hr=>by obtain ⟨l',h1,h2⟩:=hr; exact ⟨l',h1,AV.Rs.mono h h2⟩
theorem AV.Rs.mono {ρ ρ':Rho} (h:ρ <+: ρ'):∀ {l:List AV} {m:List Value},AV.Rs ρ l m→AV.Rs ρ' l m
  | [],[],_=>trivial
  | [],_::_,hr=>by simp [AV.Rs] at hr
  | _::_,[],hr=>by simp [AV.Rs] at hr
  | _::_,_::_,hr=>⟨AV.R.mono h hr.1,AV.Rs.mono h hr.2⟩
end
theorem AV.Rs.len {ρ:Rho}:∀ {l:List AV} {m:List Value},AV.Rs ρ l m→l.length=m.length
  | [],[],_=>rfl
  | [],_::_,hr=>by simp [AV.Rs] at hr
  | _::_,[],hr=>by simp [AV.Rs] at hr
  | _::_,_::_,hr=>by simp [AV.Rs.len hr.2]
theorem AV.Rs.at {ρ:Rho}:∀ {l:List AV} {m:List Value} {i:Nat} {x:AV},AV.Rs ρ l m→l[i]?=some x→∃ y,m[i]?=some y∧AV.R ρ x y
  | _::_,_::_,0,_,hr,hx=>by simp at hx; subst hx; exact ⟨_,rfl,hr.1⟩
  | _::l,_::m,i+1,_,hr,hx=>by simpa using AV.Rs.at (l:=l) (m:=m) hr.2 (by simpa using hx)
  | [],_,_,_,_,hx=>by simp at hx
  | _::_,[],_,_,hr,_=>by simp [AV.Rs] at hr
theorem AV.Rs.app {ρ:Rho}:∀ {l l2:List AV} {m m2:List Value},AV.Rs ρ l m→AV.Rs ρ l2 m2→AV.Rs ρ (l++l2) (m++m2)
  | [],_,[],_,_,h=>h
  | _::_,_,_::_,_,hr,h=>⟨hr.1,AV.Rs.app hr.2 h⟩
  | [],_,_::_,_,hr,_=>by simp [AV.Rs] at hr
  | _::_,_,[],_,hr,_=>by simp [AV.Rs] at hr
theorem AV.Rs.drop {ρ:Rho}:∀ {l:List AV} {m:List Value} (k:Nat),AV.Rs ρ l m→AV.Rs ρ (l.drop k) (m.drop k)
  | _,_,0,hr=>by simpa using hr
  | [],[],_+1,_=>trivial
  | _::_,_::_,k+1,hr=>by simpa using AV.Rs.drop k hr.2
  | [],_::_,_+1,hr=>by simp [AV.Rs] at hr
  | _::_,[],_+1,hr=>by simp [AV.Rs] at hr
theorem AV.Rs.take {ρ:Rho}:∀ {l:List AV} {m:List Value} (k:Nat),AV.Rs ρ l m→AV.Rs ρ (l.take k) (m.take k)
  | _,_,0,_=>by simp [AV.Rs]
  | [],[],_+1,_=>trivial
  | _::_,_::_,k+1,hr=>⟨hr.1,AV.Rs.take k hr.2⟩
  | [],_::_,_+1,hr=>by simp [AV.Rs] at hr
  | _::_,[],_+1,hr=>by simp [AV.Rs] at hr
theorem AV.Rs.vs {ρ:Rho}:∀ (m:List Value),AV.Rs ρ (m.map .vl) m
  | []=>trivial
  | _::m=>⟨rfl,AV.Rs.vs m⟩
noncomputable def ObR (ρ:Rho) (c:Nat):Ob→Option Obj→Prop
  | .dead,_=>True
  | .c ty l,o=>∃ cs,o=some (.cells cs ty (0,0))∧AV.Rs ρ l cs.toList
  | .w ty es l,o=>∃ cs,o=some (.cells cs ty (0,0))∧cs.size=c*es∧l.length≤cs.size∧AV.Rs ρ l (cs.toList.take l.length)
  | .loop st pend ps asg body E m,o=>∃ r,o=some (.loop r)∧r.state=st∧r.pending=pend∧r.params=ps.toArray∧r.assign=asg∧r.body=body∧(∃ d k,ρ[m]?=some (d,k)∧r.defers=d)∧r.tmps.size=E.n∧∀ x v,E.get x=some v→AV.R ρ v (r.tmps.getD x undef)
  | .mark,o=>o=some (.deferred (some []))
  | .mp l,o=>∃ es k,o=some (.map es k)∧es.toList.map (·.key)=l.map (·.1)∧AV.Rs ρ (l.map (·.2)) (es.toList.map (·.val))
structure qD (w0:World) (ρ:Rho) (s:St) (w:World):Prop where
  below:Below w0.heap.size w0 w
  len:ρ.length=s.nb
  nb:s.nb≤4096
  obs:∀ b r c,ρ[b]?=some (r,c)→w0.heap.size≤r∧r<w.heap.size∧ObR ρ c (s.ob b) w.heap[r]?
  inj:∀ b b' r c c',ρ[b]?=some (r,c)→ρ[b']?=some (r,c')→s.ob b≠.dead→s.ob b'≠.dead→b=b'
theorem ObR.mono {ρ ρ':Rho} {c:Nat} (h:ρ <+: ρ'):∀ {ob:Ob} {o:Option Obj},ObR ρ c ob o→ObR ρ' c ob o
  | .dead,_,_=>trivial
  | .c _ _,_,hr=>by obtain ⟨cs,h1,h2⟩:=hr; exact ⟨cs,h1,h2.mono h⟩
  | .w _ _ _,_,hr=>by obtain ⟨cs,h1,h2,h3,h4⟩:=hr; exact ⟨cs,h1,h2,h3,h4.mono h⟩
  | .loop _ _ _ _ _ _ _,_,hr=>by
    obtain ⟨r,h1,h2,h3,h4,h5,h6,⟨d,k,h7,h8⟩,h9,h10⟩:=hr
    exact ⟨r,h1,h2,h3,h4,h5,h6,⟨d,k,zQ h h7,h8⟩,h9,fun x v hx=>(h10 x v hx).mono h⟩
  | .mark,_,hr=>hr
  | .mp _,_,hr=>by obtain ⟨es,k,h1,h2,h3⟩:=hr; exact ⟨es,k,h1,h2,h3.mono h⟩
theorem St.ob_new {s s':St} {b:Nat} {o:Ob} (h:s.new o=some (b,s')):b=s.nb∧s'.nb=s.nb+1∧s.nb<4096∧∀ i,i<4096→s'.ob i=if s.nb=i then o else s.ob i:=by
  unfold St.new at h
  cases hb:Nat.blt s.nb 4096 with
  | false=>rw [hb] at h; cases h
  | true =>
    rw [hb] at h
    simp only [cond_true,Option.some.injEq,Prod.mk.injEq] at h
    obtain ⟨rfl,rfl⟩:=h
    have hlt:s.nb<4096:=by simpa [Nat.blt_eq] using hb
    exact ⟨rfl,rfl,hlt,fun i hi=>Tr.get_set HD _ _ _ _ (by simpa [HD] using hlt) (by simpa [HD] using hi)⟩
theorem St.ob_put {s:St} {b i:Nat} {o:Ob} (hb:b<4096) (hi:i<4096):(s.put b o).ob i=if b=i then o else s.ob i :=
  Tr.get_set HD _ _ _ _ (by simpa [HD] using hb) (by simpa [HD] using hi)
section
variable {w0 w w':World} {ρ:Rho} {s s':St}
theorem qD.lt (h:qD w0 ρ s w) {b:Nat} {x:Nat × Nat} (hb:ρ[b]?=some x):b<s.nb:=h.len ▸ (List.getElem?_eq_some_iff.1 hb).1
theorem qD.lt' (h:qD w0 ρ s w) {b:Nat} {x:Nat × Nat} (hb:ρ[b]?=some x):b<4096:=Nat.lt_of_lt_of_le (h.lt hb) h.nb
theorem qD.below' (h:qD w0 ρ s w) (hb:Below w.heap.size w w'):qD w0 ρ s w' :=
  ⟨h.below.trans (hb.mono h.below.size),h.len,h.nb,fun b r c hr=>by
    obtain ⟨h1,h2,h3⟩:=h.obs b r c hr
    exact ⟨h1,Nat.lt_of_lt_of_le h2 hb.size,by rw [hb.block r h2]; exact h3⟩,h.inj⟩
theorem qD.drew (h:qD w0 ρ s w):qD w0 ρ s w.drew:=h.below' (Below.refl _ _).drew
theorem qD.add {b:Nat} {o:Ob} {r c:Nat} (h:qD w0 ρ s w) (hn:s.new o=some (b,s')) (hb:Below w.heap.size w w') (hr:w.heap.size≤r) (hr':r<w'.heap.size) (hR:ObR (ρ++[(r,c)]) c o w'.heap[r]?) :
    ρ <+: ρ++[(r,c)]∧(ρ++[(r,c)])[b]?=some (r,c)∧qD w0 (ρ++[(r,c)]) s' w':=by
  obtain ⟨rfl,e1,e2,e3⟩:=St.ob_new hn
  have hp:ρ <+: ρ++[(r,c)]:=⟨_,rfl⟩
  have hl:=h.len
  refine ⟨hp,by rw [← hl]; simp,h.below.trans (hb.mono h.below.size),by simp [hl,e1],by omega,fun i r' c' hi=>?_,fun i j r' c' c'' hi hj di dj=>?_⟩
  · rcases Nat.lt_or_ge i ρ.length with hlt | hge
    · rw [List.getElem?_append_left hlt] at hi
      obtain ⟨h1,h2,h3⟩:=h.obs i r' c' hi
      rw [e3 i (h.lt' hi),if_neg (by omega),hb.block r' h2]
      exact ⟨h1,Nat.lt_of_lt_of_le h2 hb.size,h3.mono hp⟩
    · have hi':i=ρ.length:=by
        have:=(List.getElem?_eq_some_iff.1 hi).1
        simp at this; omega
      subst hi'
      simp at hi
      obtain ⟨rfl,rfl⟩:=hi
      rw [e3 _ (by omega),if_pos hl.symm]
      exact ⟨Nat.le_trans h.below.size hr,hr',hR⟩
  · have old:∀ {k:Nat} {r1 c1:Nat},(ρ++[(r,c)])[k]?=some (r1,c1)→k < ρ.length→ρ[k]?=some (r1,c1):=fun hk hlt=>by rwa [List.getElem?_append_left hlt] at hk
    have new:∀ {k r1 c1:Nat},(ρ++[(r,c)])[k]?=some (r1,c1)→¬ k < ρ.length→k=ρ.length∧r1=r:=by
      intro k r1 c1 hk hge
      have hlt:=(List.getElem?_eq_some_iff.1 hk).1
      simp at hlt
      obtain rfl:k=ρ.length:=by omega
      simp at hk
      exact ⟨rfl,hk.1.symm⟩
    by_cases hi1:i < ρ.length <;> by_cases hj1:j < ρ.length
    · have hi2:=old hi hi1; have hj2:=old hj hj1
      rw [e3 i (h.lt' hi2),if_neg (by omega)] at di
      rw [e3 j (h.lt' hj2),if_neg (by omega)] at dj
      exact h.inj i j r' c' c'' hi2 hj2 di dj
    · have:=h.obs i _ _ (old hi hi1)
      obtain ⟨_,e⟩:=new hj hj1
      omega
    · have:=h.obs j _ _ (old hj hj1)
      obtain ⟨_,e⟩:=new hi hi1
      omega
    · rw [(new hi hi1).1,(new hj hj1).1]
theorem qD.turn {b:Nat} {o:Ob} {r c:Nat} (h:qD w0 ρ s w) (hr:ρ[b]?=some (r,c)) (hd:s.ob b≠.dead) (hb:Below w0.heap.size w w') (ho:∀ k,k≠r→w'.heap[k]?=w.heap[k]?) (hR:ObR ρ c o w'.heap[r]?):qD w0 ρ (s.put b o) w':=by
  have hb':=h.lt' hr
  refine ⟨h.below.trans hb,h.len,h.nb,fun i r' c' hi=>?_,fun i j r' c' c'' hi hj di dj=>?_⟩
  · obtain ⟨h1,h2,h3⟩:=h.obs i r' c' hi
    refine ⟨h1,Nat.lt_of_lt_of_le h2 hb.size,?_⟩
    rw [St.ob_put hb' (h.lt' hi)]
    by_cases e:b=i
    · subst e
      rw [hr] at hi; cases hi
      rw [if_pos rfl]; exact hR
    · rw [if_neg e]
      by_cases er:r'=r
      · subst er
        by_cases hdi:s.ob i=.dead
        · rw [hdi]; trivial
        · exact absurd (h.inj b i r' c c' hr hi hd hdi) e
      · rw [ho r' er]; exact h3
  · rw [St.ob_put hb' (h.lt' hi)] at di
    rw [St.ob_put hb' (h.lt' hj)] at dj
    by_cases ei:b=i <;> by_cases ej:b=j
    · omega
    · subst ei; rw [if_neg ej] at dj; exact h.inj b j r' c' c'' hi hj hd dj
    · subst ej; rw [if_neg ei] at di; exact h.inj i b r' c' c'' hi hj di hd
    · rw [if_neg ei] at di; rw [if_neg ej] at dj; exact h.inj i j r' c' c'' hi hj di dj
theorem qD.kill {b:Nat} (h:qD w0 ρ s w) (hb:b<4096):qD w0 ρ (s.put b .dead) w:=by
  refine ⟨h.below,h.len,h.nb,fun i r' c' hi=>?_,fun i j r' c' c'' hi hj di dj=>?_⟩
  · obtain ⟨h1,h2,h3⟩:=h.obs i r' c' hi
    refine ⟨h1,h2,?_⟩
    rw [St.ob_put hb (h.lt' hi)]
    by_cases e:b=i
    · rw [if_pos e]; trivial
    · rw [if_neg e]; exact h3
  · rw [St.ob_put hb (h.lt' hi)] at di
    rw [St.ob_put hb (h.lt' hj)] at dj
    by_cases ei:b=i
    · rw [if_pos ei] at di; exact absurd rfl di
    · by_cases ej:b=j
      · rw [if_pos ej] at dj; exact absurd rfl dj
      · rw [if_neg ei] at di; rw [if_neg ej] at dj; exact h.inj i j r' c' c'' hi hj di dj
end
noncomputable def St.cells (s:St) (b:Nat):Option (List AV) :=
  match s.ob b with
  | .c _ l=>some l
  | .w _ _ l=>some l
  | _=>none
noncomputable def consS {α:Type} (x:α):List α→List α
  | []=>[x]
  | y::l=>x::y::l
theorem Yp {α:Type} (x:α) (l:List α):consS x l=x::l:=by cases l <;> rfl
noncomputable def lenF {α:Type} (l:List α):Nat:=List.rec (motive:=fun _=>Nat) 0 (fun _ _ n=>n+1) l
theorem Q6 {α:Type}:∀ l:List α,lenF l=l.length
  | []=>rfl
  | _::l=>by show lenF l+1=_; rw [Q6 l]; rfl
noncomputable def Y7 {α:Type} (l:List α):Nat→List α:=List.rec (motive:=fun _=>Nat→List α) (fun _=>[]) (fun x l ih i=>Nat.casesOn (motive:=fun _=>List α) i (x::l) ih) l
theorem Jc {α:Type}:∀ (l:List α) (i:Nat),Y7 l i=l.drop i
  | [],i=>by simp [Y7]
  | _::_,0=>rfl
  | _::l,i+1=>by show Y7 l i=_; rw [Jc l i]; rfl
noncomputable def takeF {α:Type} (l:List α):Nat→List α:=List.rec (motive:=fun _=>Nat→List α) (fun _=>[]) (fun x _ ih i=>Nat.casesOn (motive:=fun _=>List α) i [] (fun j=>consS x (ih j))) l
theorem ZX {α:Type}:∀ (l:List α) (i:Nat),takeF l i=l.take i
  | [],i=>by simp [takeF]
  | _::_,0=>rfl
  | x::l,i+1=>by show consS x (takeF l i)=_; rw [Yp,ZX l i]; rfl
noncomputable def putL {α:Type} (l:List α):Nat→List α→List α:=List.rec (motive:=fun _=>Nat→List α→List α) (fun _ _=>[])
  (fun a l ih i x=>Nat.casesOn (motive:=fun _=>List α) i (List.casesOn (motive:=fun _=>List α) x (a::l) (fun y x'=>consS y (ih 0 x'))) (fun j=>consS a (ih j x))) l
theorem Xg {α:Type}:∀ (l:List α) (i:Nat) (x:List α),i+x.length≤l.length→putL l i x=l.take i++x++l.drop (i+x.length)
  | [],i,x,h=>by
    simp at h
    obtain ⟨rfl,rfl⟩:=h
    rfl
  | a::l,0,[],_=>by show a::l=_; simp
  | a::l,0,y::x,h=>by
    show consS y (putL l 0 x)=_
    rw [Yp,Xg l 0 x (by simpa using h)]
    simp
  | a::l,i+1,x,h=>by
    show consS a (putL l i x)=_
    rw [Yp,Xg l i x (by simp at h; omega)]
    simp only [List.take_succ_cons,List.cons_append]
    rw [show i+1+x.length=(i+x.length)+1 by omega,List.drop_succ_cons]
noncomputable def St.read (s:St) (b i n:Nat):Option (List AV) :=
  match s.cells b with
  | some l=>bif Nat.beq (lenF (takeF (Y7 l i) n)) n then some (takeF (Y7 l i) n) else none
  | none=>none
noncomputable def AV.one:AV→Bool
  | .vl x=>x.oneCell'
  | .tu _ | .ag _=>false
  | _=>true
noncomputable def fits (l:List AV) (i n:Nat):Bool:=Nat.beq (lenF (takeF (Y7 l i) n)) n
theorem qck {l:List AV} {i n:Nat} (h:fits l i n=true) (h0:0<n):i+n≤l.length:=by
  unfold fits at h
  rw [Q6,ZX,Jc] at h
  simp at h
  omega
noncomputable def St.write (s:St) (b i:Nat) (m:List AV):Option St:=match m with
  | []=>some s
  | x::m'=>bif (x::m').all AV.one then
    match s.ob b with
    | .c ty l=>bif fits l i (lenF (x::m')) then some (s.put b (.c ty (putL l i (x::m')))) else none
    | .w ty es l=>bif fits l i (lenF (x::m')) then some (s.put b (.w ty es (putL l i (x::m')))) else none
    | _=>none
  else none
section
variable {w0 w w':World} {ρ:Rho} {s s':St}
theorem qD.cells (h:qD w0 ρ s w) {b r c:Nat} {l:List AV} (hr:ρ[b]?=some (r,c)) (hl:s.cells b=some l) :
    ∃ cs ty,w.heap[r]?=some (.cells cs ty (0,0))∧l.length≤cs.size∧AV.Rs ρ l (cs.toList.take l.length):=by
  obtain ⟨_,_,h3⟩:=h.obs b r c hr
  unfold St.cells at hl
  cases ho:s.ob b with
  | c ty l' =>
    rw [ho] at hl h3; cases hl
    obtain ⟨cs,e1,e2⟩:=h3
    have:=e2.len
    exact ⟨cs,ty,e1,by simp at this; omega,by rw [List.take_of_length_le (by omega)]; exact e2⟩
  | w ty es l' =>
    rw [ho] at hl h3; cases hl
    obtain ⟨cs,e1,_,e3,e4⟩:=h3
    exact ⟨cs,ty,e1,e3,e4⟩
  | dead=>rw [ho] at hl; cases hl
  | loop=>rw [ho] at hl; cases hl
  | mark=>rw [ho] at hl; cases hl
  | mp=>rw [ho] at hl; cases hl
theorem qD.read (h:qD w0 ρ s w) {b r c i n:Nat} {l:List AV} (hr:ρ[b]?=some (r,c)) (hl:s.read b i n=some l) :
    ∃ l',AV.Rs ρ l l'∧l'.length=n∧∀ (j:Nat) v,l'[j]?=some v→w.cell? ⟨r,i+j,none⟩=some v:=by
  unfold St.read at hl
  cases hc:s.cells b with
  | none=>rw [hc] at hl; cases hl
  | some l0 =>
    rw [hc] at hl
    simp only at hl
    cases hb:Nat.beq (lenF (takeF (Y7 l0 i) n)) n with
    | false=>rw [hb] at hl; cases hl
    | true =>
      rw [hb] at hl
      simp only [cond_true,Option.some.injEq] at hl
      subst hl
      rw [Q6,ZX,Jc] at hb
      rw [ZX,Jc]
      have hlen:((l0.drop i).take n).length=n:=Nat.eq_of_beq_eq_true hb
      obtain ⟨cs,ty,e1,e2,e3⟩:=h.cells hr hc
      have hR:AV.Rs ρ ((l0.drop i).take n) (((cs.toList.take l0.length).drop i).take n):=(e3.drop i).take n
      refine ⟨_,hR,by rw [← hR.len]; exact hlen,fun j v hj=>?_⟩
      have hjn:j<n:=by
        have:=(List.getElem?_eq_some_iff.1 hj).1
        rw [← hR.len,hlen] at this; exact this
      have hle:i+n≤l0.length:=by simp at hlen; omega
      rw [List.getElem?_take_of_lt hjn,List.getElem?_drop,List.getElem?_take_of_lt (by omega)] at hj
      simp only [World.cell?,e1]
      simpa using hj
end
theorem AV.one_of {ρ:Rho}:∀ {x:AV} {y:Value},x.one=true→AV.R ρ x y→y.oneCell'=true
  | .vl _,_,h,hr=>by cases hr; exact h
  | .pt _ _,_,_,hr=>by obtain ⟨_,_,_,rfl⟩:=hr; rfl
  | .sl _ _ _ _,_,_,hr=>by obtain ⟨_,_,_,rfl⟩:=hr; rfl
  | .sz _ _ _ _,_,_,hr=>by obtain ⟨_,_,_,rfl,_⟩:=hr; rfl
  | .em,_,_,hr=>by obtain ⟨_,_,rfl⟩:=hr; rfl
  | .fn _ _ _,_,_,hr=>by obtain ⟨_,_,rfl,_⟩:=hr; rfl
  | .yi _,_,_,hr=>by obtain ⟨_,_,_,rfl⟩:=hr; rfl
  | .mh _,_,_,hr=>by obtain ⟨_,_,_,rfl⟩:=hr; rfl
  | .tu _,_,h,_=>by simp [AV.one] at h
  | .ag _,_,h,_=>by simp [AV.one] at h
theorem AV.Rs.ones {ρ:Rho}:∀ {l:List AV} {m:List Value},l.all AV.one=true→AV.Rs ρ l m→∀ v∈m,v.oneCell'=true
  | [],[],_,_=>by simp
  | x::l,y::m,h,hr=>by
    simp only [List.all_cons,Bool.and_eq_true] at h
    intro v hv
    cases hv with
    | head=>exact AV.one_of h.1 hr.1
    | tail _ hv=>exact AV.Rs.ones h.2 hr.2 v hv
  | [],_::_,_,hr=>by simp [AV.Rs] at hr
  | _::_,[],_,hr=>by simp [AV.Rs] at hr
theorem AV.Rs.put {ρ:Rho} {l:List AV} {m:List Value} {x:List AV} {y:List Value} (h:AV.Rs ρ l m) (hx:AV.Rs ρ x y) (i:Nat) (hle:i+x.length≤l.length):AV.Rs ρ (putL l i x) (m.take i++y++m.drop (i+y.length)):=by
  rw [Xg _ _ _ hle,hx.len]
  exact ((h.take i).app hx).app (h.drop _)
section
variable {P:Program} {w0 w w':World} {ρ:Rho} {s s':St}
theorem qD.write (h:qD w0 ρ s w) {b r c i:Nat} {m:List AV} {m':List Value} (hr:ρ[b]?=some (r,c)) (hw:s.write b i m=some s') (hm:AV.Rs ρ m m') :
    ∃ w',(storeCells ⟨r,i,none⟩ m').run P w=.ok () w'∧qD w0 ρ s' w':=by
  unfold St.write at hw
  cases hm0:m with
  | nil =>
    subst hm0
    cases hw
    match m',hm with
    | [],_=>exact ⟨w,by simp [storeCells],h⟩
    | _::_,hm=>simp [AV.Rs] at hm
  | cons x0 m0 =>
  rw [hm0] at hw
  simp only at hw
  rw [← hm0] at hw
  have hpos:0<m.length:=by rw [hm0]; simp
  cases h1:m.all AV.one with
  | false=>rw [h1] at hw; cases hw
  | true =>
    rw [h1] at hw
    have ones:=AV.Rs.ones h1 hm
    have hml:=hm.len
    obtain ⟨hb,_,h3⟩:=h.obs b r c hr
    have go:∀ {cs:Array Value} {ty:TypeId} {ob:Ob},w.heap[r]?=some (.cells cs ty (0,0))→i+m'.length≤cs.size→s.ob b≠.dead →
        (∀ cs':Array Value,cs'.size=cs.size→cs'.toList=cs.toList.take i++m'++cs.toList.drop (i+m'.length)→ObR ρ c ob (some (.cells cs' ty (0,0)))) →
        ∃ w',(storeCells ⟨r,i,none⟩ m').run P w=.ok () w'∧qD w0 ρ (s.put b ob) w':=by
      intro cs ty ob hc hle hd hR
      have hst:=run_storeCells_at P r i ty m' 0 cs w hc (by omega) ones
      simp only [Nat.add_zero] at hst
      refine ⟨_,hst,h.turn hr hd (Ql hb) (fun j hj=>setRow_other w r j _ hj) ?_⟩
      rw [setRow_heap w r cs _ ty _ hc]
      refine hR _ ?_ rfl
      simp only [List.size_toArray,List.length_append,List.length_take,List.length_drop,Array.length_toList]
      omega
    cases ho:s.ob b with
    | c ty l =>
      rw [ho] at hw h3
      simp only [cond_true] at hw
      cases hle:fits l i (lenF m) with
      | false=>rw [hle] at hw; cases hw
      | true =>
        rw [hle] at hw
        simp only [cond_true,Option.some.injEq] at hw
        subst hw
        obtain ⟨cs,e1,e2⟩:=h3
        have hlen:=e2.len
        have hle':i+m.length≤l.length:=by rw [Q6] at hle; exact qck hle hpos
        simp at hlen
        exact go e1 (by omega) (by rw [ho]; simp) fun cs' _ e=>⟨cs',rfl,by rw [e]; exact e2.put hm i hle'⟩
    | w ty es l =>
      rw [ho] at hw h3
      simp only [cond_true] at hw
      cases hle:fits l i (lenF m) with
      | false=>rw [hle] at hw; cases hw
      | true =>
        rw [hle] at hw
        simp only [cond_true,Option.some.injEq] at hw
        subst hw
        obtain ⟨cs,e1,e2,e3,e4⟩:=h3
        have hle':i+m.length≤l.length:=by rw [Q6] at hle; exact qck hle hpos
        have hpl:(putL l i m).length=l.length:=by rw [Xg _ _ _ hle']; simp; omega
        refine go e1 (by omega) (by rw [ho]; simp) fun cs' es' e=>⟨cs',rfl,by rw [es']; exact e2,by rw [hpl,es']; exact e3,?_⟩
        have:=e4.put hm i hle'
        have eq:List.take l.length (List.take i cs.toList++m'++List.drop (i+m'.length) cs.toList)=List.take i (List.take l.length cs.toList)++m'++List.drop (i+m'.length) (List.take l.length cs.toList):=by
          have hc:cs.toList.length=cs.size:=Array.length_toList
          have hx:(List.take i cs.toList++m').length=i+m'.length:=by simp; omega
          rw [List.take_append,hx,List.take_of_length_le (by rw [hx]; omega),List.take_take,Nat.min_eq_left (by omega),List.drop_take]
        rw [hpl,e,eq]; exact this
    | dead=>rw [ho] at hw; cases hw
    | loop=>rw [ho] at hw; cases hw
    | mark=>rw [ho] at hw; cases hw
    | mp=>rw [ho] at hw; cases hw
end
end Go.Sl.Ev
