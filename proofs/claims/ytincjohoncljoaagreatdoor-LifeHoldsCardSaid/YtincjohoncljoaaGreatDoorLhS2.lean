/-
  Own work: a small logic for walking through a function's code: facts on slots, owned blocks of memory, and its rules; of any program.
-/
import Derived.Test.YtincjohoncljoaaGreatDoorLhS1
import Derived.Laws.Cover3
import Derived.Laws.IdiomStrings
import Derived.ChangeKeysEq
import Derived.Deep.Slices
import Derived.OpenShut
import Derived.Maps.RangeRun
import Derived.WideLaws
set_option linter.all false
set_option linter.unusedSimpArgs false
set_option linter.unusedVariables false
namespace Go.Sl
open Go.RowKit
section
variable {P:Program} {w0:World} {H H':qe}
theorem qh.up {b i:Nat} {v:Value} (h:qh w0 H b i v) (hs:qr H' H):qh w0 H' b i v:=fun w hw=>h w (hw.hsub hs)
theorem QI.up {b i:Nat} {vs:List Value} (h:QI w0 H b i vs) (hs:qr H' H):QI w0 H' b i vs:=fun j v hv=>(h j v hv).up hs
theorem Holds.up {ad:Option Addr} {l:List Value} (h:Holds w0 H ad l) (hs:qr H' H):Holds w0 H' ad l:=fun j x hx=>by
  obtain ⟨b,o,e,hc⟩:=h j x hx
  exact ⟨b,o,e,hc.up hs⟩
theorem Holds.take {ad:Option Addr} {l:List Value} (h:Holds w0 H ad l) (k:Nat):Holds w0 H ad (l.take k):=fun j x hx=>h j x (by
  rw [List.getElem?_take] at hx
  split at hx
  · exact hx
  · cases hx)
theorem Holds.old {ad:Option Addr} {l:List Value} (h:∀ (j:Nat) x,l[j]?=some x→∃ b o,ad=some ⟨b,o,none⟩∧w0.cell? ⟨b,o+j,none⟩=some x):Holds w0 H ad l:=fun j x hx=>by
  obtain ⟨b,o,e,hc⟩:=h j x hx
  exact ⟨b,o,e,qh.old hc⟩
theorem Holds.at {ad:Option Addr} {l:List Value} {i:Nat} {v:Value} (h:Holds w0 H ad l) (hv:l[i]?=some v):∃ b o,ad=some ⟨b,o,none⟩∧qh w0 H b (o+i) v:=h i v hv
theorem qaH {α:Type} {f:α→List Value} {s:Nat} (hf:∀ x,(f x).length=s):∀ {l:List α} {i:Nat} {x:α},l[i]?=some x→∀ j v,(f x)[j]?=some v→(l.flatMap f)[i*s+j]?=some v
  | [],_,_,h,_,_,_=>by simp at h
  | y::l,0,x,h,j,v,hv=>by
    have:y=x:=by simpa using h
    subst this
    rw [List.flatMap_cons,List.getElem?_append_left (by rw [Nat.zero_mul,Nat.zero_add]; exact (List.getElem?_eq_some_iff.1 hv).1)]
    simpa using hv
  | y::l,i+1,x,h,j,v,hv=>by
    have ih:=qaH hf (l:=l) (i:=i) (by simpa using h) j v hv
    rw [List.flatMap_cons,List.getElem?_append_right (by rw [hf,Nat.add_mul]; omega),hf,show (i+1)*s+j-s=i*s+j by rw [Nat.add_mul]; omega]
    exact ih
theorem Xj {α:Type} {f:α→List Value} {s:Nat} (hf:∀ x,(f x).length=s):∀ l:List α,(l.flatMap f).length=l.length*s
  | []=>by simp
  | x::l=>by rw [List.flatMap_cons,List.length_append,hf,Xj hf l,List.length_cons,Nat.add_mul]; omega
theorem Holds.row {α:Type} {f:α→List Value} {s:Nat} (hf:∀ x,(f x).length=s) (hs:0<s) {ad:Option Addr} {l:List α} {i:Nat} {x:α} (h:Holds w0 H ad (l.flatMap f)) (hx:l[i]?=some x):∃ b o,ad=some ⟨b,o,none⟩∧QI w0 H b (o+i*s) (f x):=by
  have h0:0<(f x).length:=by rw [hf]; exact hs
  obtain ⟨b,o,e,_⟩:=h _ _ (qaH hf hx 0 _ (List.getElem?_eq_getElem h0))
  subst e
  refine ⟨b,o,rfl,fun j v hv=>?_⟩
  obtain ⟨b',o',e',hc⟩:=h _ _ (qaH hf hx j v hv)
  cases e'
  rw [Nat.add_assoc]; exact hc
theorem Holds.of_own {e:TypeId} {s:Nat} {v:Value} {n:Nat} {xs:List Value} {HB:qe} (h:zz e s v n xs HB) (hm:∀ p∈HB,p∈H):∃ ad cap,v=.slice ad n cap∧n≤cap∧cap≤maxLen∧Holds w0 H ad xs:=by
  cases h with
  | nil=>exact ⟨none,0,rfl,Nat.le_refl _,Nat.zero_le _,Holds.nil⟩
  | own h1 h2 h3=>exact ⟨_,_,rfl,h2,h3,Holds.own (hm _ List.mem_cons_self)⟩
def qG (P:Program) (w0:World) (H:qe) (f:FuncId) (args:List Value) (v:Value):Prop:=qk P w0 f args.toArray H (fun v' H'=>v'=v∧H'=H)
theorem Zu.at {T:World→Prop} {f:FuncId} {args:List Value} {v:Value} (h:Zu P T f args v) (hT:T w0):qG P w0 H f args v:=h w0 H hT
end
section
variable {P:Program} {rd:Option Nat} {w0:World} {Q:Exit→Act→World→Prop} {n:Nat} {ds:List Deferred} {k:List It} {env env':Env} {H H':qe} {all:Array Oper} {rest:List Oper}
variable {x y c:Operand} {t u ty:TypeId} {pos:String} {aft:Array Edge} {v:Value}
theorem qbF {a:Act} (ha:zx n env a) {j dj:Nat} (hj:(all[j]?).bind (·.dst)=some dj) (ht:look env dj=some undef):yielded all a.tmps j=none:=by
  have hv:=ha.val _ _ ht
  unfold yielded
  rw [hj]
  simp only [Option.bind_some]
  rcases Nat.lt_or_ge dj a.tmps.size with h | h
  · rw [Array.getD_eq_getD_getElem?,Array.getElem?_eq_getElem h] at hv
    rw [Array.getElem?_eq_getElem h]
    simp only [Option.getD_some] at hv
    rw [hv]; rfl
  · rw [Array.getElem?_eq_none h]
theorem qB {d:Option Nat} {f:FuncId} {l:List Operand} {vs:List Value} {tys:Array TypeId} (hc:J9 env l vs) (hf:∀ (args:Array Value) (w:World),(callFunc f args).run P w=.ok (.enter f args) w) (hd:dok n d=true)
    (hL:qG P w0 H f vs v) (h:W P rd w0 Q n ds (.ops all rest::k) (put d v env) H) :
    W P rd w0 Q n ds (.ops all (⟨d,.call ⟨.value (.func f),l.toArray,tys⟩,t,pos,aft,none⟩::rest)::k) env H :=
  qn hc hf hd hL (by rintro v' H' ⟨rfl,rfl⟩; exact h)
theorem YI {d:Option Nat} {f:FuncId} {l:List Operand} {vs args:List Value} {fa ca:List Value} {tys:Array TypeId} (hx:opv env x=some (.func (.func f) fa.toArray ca.toArray)) (hc:J9 env l vs) (ha:fa++vs++ca=args) (hf:∀ (args:Array Value) (w:World),(callFunc f args).run P w=.ok (.enter f args) w) (hd:dok n d=true)
    (hL:qG P w0 H f args v) (h:W P rd w0 Q n ds (.ops all rest::k) (put d v env) H) :
    W P rd w0 Q n ds (.ops all (⟨d,.call ⟨.value x,l.toArray,tys⟩,t,pos,aft,none⟩::rest)::k) env H:=by
  subst ha
  refine JR hx hc hf hd (R:=fun v' H'=>v'=v∧H'=H) ?_ (by rintro v' H' ⟨rfl,rfl⟩; exact h)
  have:=hL
  unfold qG at this
  simpa using this
theorem Ju {ops:Array Oper} {f:FuncId} {l:List Operand} {vs:List Value} {d:Option Nat} {tys:Array TypeId} (hc:J9 env l vs) (hf:∀ (args:Array Value) (w:World),(callFunc f args).run P w=.ok (.enter f args) w) (hd:dok n d=true)
    (hL:qG P w0 H f vs v) (h:WQ P w0 Q n ds k ops rest (put d v env) H) :
    WQ P w0 Q n ds k ops (⟨d,.call ⟨.value (.func f),l.toArray,tys⟩,ty,pos,aft,none⟩::rest) env H:=fun a ha hds=>by
  refine ⟨fun _ _ _ _=>trivial,?_⟩
  rw [if_pos (by simp [Region.wanted])]
  refine ⟨v,fun w hs=>?_,h _ (ha.put hd) (by cases d <;> exact hds)⟩
  unfold Oper.quietAtIn
  have hl:l.map a.eval=vs:=ha.opvs hc
  rw [show (execOp a.eval ⟨d,.call ⟨.value (.func f),l.toArray,tys⟩,ty,pos,aft,none⟩).run P w=.ok (.enter f vs.toArray) w by
    simp [execOp,resolve,Act.eval,Deferred.ofValue,invoke,hl,hf,Result.andThen]]
  refine ⟨rfl,fun h=>by simp [Fence.wide] at h,?_⟩
  have hcl:CallsIn (fen none) 0 P f vs.toArray w _:=hL w hs
  exact hcl.mono fun e w'' ⟨v',H',he,⟨hv,hH⟩,hs'⟩=>⟨by rw [he,hv],by rw [← hH]; exact hs'⟩
def qdW (w0:World) (n:Nat) (ds:List Deferred) (env:Env) (H:qe) (a:Act) (w:World):Prop:=zx n env a∧a.defers=ds∧Sat w0 H w
theorem qlA {c:Operand} {x y:Code} {t:Bool} {p:Prop} (env':Env) (H':qe) (hc:opv env c=some (.bool t)) (hp:t=true↔p)
    (ht:p→W P rd w0 (fun _ _ _=>False) n ds [.code x,.goal (qdW w0 n ds env' H')] env H) (hf:¬ p→W P rd w0 (fun _ _ _=>False) n ds [.code y,.goal (qdW w0 n ds env' H')] env H)
    (h:W P rd w0 Q n ds k env' H'):W P rd w0 Q n ds (.code (.cond c x y)::k) env H:=fun a w ha hd hs=>by
  have mono:∀ z:Code,W P rd w0 (fun _ _ _=>False) n ds [.code z,.goal (qdW w0 n ds env' H')] env H→z.wpIn (fen rd) 0 P (Qx P rd Q k) a w:=fun z hz=>by
    refine wpIn_mono (hz a w ha hd hs) fun e a2 w2 hq=>?_
    cases e with
    | normal=>exact h a2 w2 hq.1 hq.2.1 hq.2.2
    | exit id=>exact hq.elim
    | goto l=>exact hq.elim
    | ret=>exact hq.elim
    | panic ch=>exact hq.elim
    | outgrown=>exact hq.elim
  exact wpIn_cond_split (ha.opv hc) (fun e=>mono x (ht (hp.1 e))) (fun e=>mono y (hf (fun q=>by rw [hp.2 q] at e; cases e)))
theorem J6 (he:sub env' env) (hh:qr H H') {k':List It}:W P rd w0 Q n ds (.goal (qdW w0 n ds env' H')::k') env H:=YV fun _ _ ha hd hs=>⟨ha.weaken (Yj he),hd,hs.hsub hh⟩
theorem qdY {F:Fence} {n:Nat} {c:Code} {a:Act} {w:World} {Q:Exit→Act→World→Prop} (hQ:∀ l a w,Q (.goto l) a w→False) (h:c.wpIn F n P Q a w):(Code.scope c).wpIn F n P Q a w:=by
  intro b k cs hro hb hr
  have s1:step P (lone (b.atR a (.code (.scope c)::k)) cs w)=.next (lone (b.atR a (.code c::.inScope c::k)) cs w):=step_lone_go (by simp [stepG,stepG.exec,Frame.atR])
  have h0:(lone (b.atR a (.code (.scope c)::k)) cs w).fenced P F:=fenced_calm hb hr rfl
  have hx:∀ id,exitTo id (.inScope c::k)=exitTo id k:=fun id=>by simp [exitTo]
  obtain ⟨e,a₁,w₁,hq,harr⟩:=h b (.inScope c::k) cs hro hb hr
  cases e with
  | normal =>
    have s2:step P (lone (b.atR a₁ (.inScope c::k)) cs w₁)=.next (lone (b.atR a₁ k) cs w₁):=step_lone_go (by simp [stepG,stepG.exec,Frame.atR])
    exact ⟨.normal,a₁,w₁,hq,.head h0 s1 (StepsIn.trans harr (.one (fenced_calm (fr:=b.atR a₁ (.inScope c::k)) hb hr rfl) s2))⟩
  | exit id =>
    exact ⟨.exit id,a₁,w₁,hq,fun k' hk=>.head h0 s1 (harr.1 k' (by rw [hx]; exact hk)),
      fun hr' hk=>let ⟨k₁,h1,h2⟩:=harr.2 hr' (by rw [hx]; exact hk); ⟨k₁,h1,.head h0 s1 h2⟩⟩
  | goto l=>exact (hQ l a₁ w₁ hq).elim
  | ret=>exact ⟨_,a₁,w₁,hq,.of_steps (.one h0 s1) harr⟩
  | panic ch=>exact ⟨_,a₁,w₁,hq,.of_steps (.one h0 s1) harr⟩
  | outgrown=>exact ⟨_,a₁,w₁,hq,.of_steps (.one h0 s1) harr⟩
theorem YG {l:Nat}:∀ {k:List It} (a:Act) (w:World),Qx P rd Q k (.goto l) a w→Q (.goto l) a w
  | [],_,_,h=>h
  | .blk _::k,a,w,h=>YG (k:=k) a w h
  | .code _::k,a,w,h=>YG (k:=k) a w h
  | .ops _ _::k,a,w,h=>YG (k:=k) a w h
  | .goal _::k,a,w,h=>YG (k:=k) a w h
theorem qfe {c:Code} (hQ:∀ l a w,Q (.goto l) a w→False) (h:W P rd w0 Q n ds (.code c::k) env H):W P rd w0 Q n ds (.code (.scope c)::k) env H :=
  fun a w ha hd hs=>qdY (fun l a w hc=>hQ l a w (YG a w hc)) (h a w ha hd hs)
theorem qfh {l:Nat} (h:W P rd w0 Q n ds k env H):W P rd w0 Q n ds (.code (.label l)::k) env H:=fun a w ha hd hs=>wpIn_label (h a w ha hd hs)
end
end Go.Sl
namespace Go.Sl
open Go.RowKit
section
variable {P:Program} {rd:Option Nat} {w0:World} {Q:Exit→Act→World→Prop} {n:Nat} {ds:List Deferred} {k:List It} {env:Env} {H:qe}
theorem qV {X:Type} {c:Code} (C:Env) (E:X→Env) (DS:X→List Deferred) (HH:X→qe) (I:X→Prop) (μ:X→Nat) (x0:X) (h0:I x0) (hc:sub C env) (he:sub (E x0) env) (hd0:ds=DS x0) (hh:qr H (HH x0))
    (round:∀ x,I x→W P rd w0 Q n (DS x) (.code c::.goal (fun a w=>∃ x',I x'∧μ x' < μ x∧zx n (E x'++C) a∧a.defers=DS x'∧Sat w0 (HH x') w)::k) (E x++C) (HH x)) :
    W P rd w0 Q n ds (.code (.loop c)::k) env H :=
  qly (fun x=>E x++C) DS HH I μ x0 h0 (fun p hp=>(List.mem_append.1 hp).elim (he p) (hc p)) hd0 hh round
variable {H':qe} {all:Array Oper} {rest:List Oper} {d:Nat} {x y c:Operand} {t u ty:TypeId} {pos:String} {aft:Array Edge} {v:Value}
theorem qeC {s by_ len es eb:Nat} {z ez:Value} {e:TypeId} {ed:TypeDesc} {parts:List (Nat × Operand)} {ps:List (Nat × List Value)} {l:List Value} {C:World→Prop} (ht:Ty P t (.array len e) s z by_) (he:Ty P e ed es ez eb)
    (hp:XL env (Kl es) s parts ps) (hz:Nat.beq z.cells.size s=true) (hl:KB z.cells.toList ps=l) :
    Ex P n env C (.build t parts.toArray) ty (.agg l.toArray):=fun a w d pos aft g ha _=>by
  obtain ⟨out,ho,hol⟩:=hp.run ha (cells:=z.cells) (by simpa using hz)
  have hout:out=l.toArray:=by apply Array.ext'; rw [hol,hl]
  have ho':Instr.fill (fun i=>some (i*es,es)) z.cells (parts.map fun (i,x)=>(i,a.eval x))=some out:=ho
  have hr:(Instr.build t (parts.map fun (i,x)=>(i,a.eval x)).toArray).run P w=.ok (.agg l.toArray) w:=by
    unfold Instr.build
    simp only [Sem.run_bind,ht.zero,ht.run,he.size,Result.andThen]
    rw [ho']
    subst hout
    rfl
  simp only [execOp,List.map_toArray,Sem.run_bind,hr]
  simp [Result.andThen]
theorem qeF {s by_ len es eb:Nat} {z ez:Value} {e:TypeId} {ed:TypeDesc} {parts:List (Nat × Operand)} {ps:List (Nat × List Value)} {l:List Value} (ht:Ty P t (.array len e) s z by_) (he:Ty P e ed es ez eb)
    (hp:XL env (Kl es) s parts ps) (hz:Nat.beq z.cells.size s=true) (hl:KB z.cells.toList ps=l) (hd:Nat.blt d n=true)
    (h:W P rd w0 Q n ds (.ops all rest::k) ((d,.agg l.toArray)::env) H) :
    W P rd w0 Q n ds (.ops all (⟨some d,.build t parts.toArray,ty,pos,aft,none⟩::rest)::k) env H :=
  Qd rfl nofun hd (fun a w ha hs=>qeC (C:=fun _=>True) ht he hp hz hl a w _ _ _ _ ha trivial) h
end
end Go.Sl
namespace Go.Sl
open Go.RowKit
inductive XW (P:Program) (w0:World) (env:Env) (H:qe):ResultVar→Value→Prop
  | tmp {t:Nat} {v:Value} (h:look env t=some v):XW P w0 env H (.tmp t) v
  | own {t ty b s e tot by_:Nat} {td:TypeDesc} {z:Value} {vs:List Value} (hv:look env t=some (.pointer (some ⟨b,0,none⟩))) (ht:Ty P ty td s z by_) (hf:Xk td=false) (hm:(b,Blk.cells e tot vs)∈H) (hl:vs.length=s):XW P w0 env H (.cell t ty) (.agg vs.toArray)
  | one {t ty b i s by_:Nat} {td:TypeDesc} {z v:Value} (hv:look env t=some (.pointer (some ⟨b,i,none⟩))) (ht:Ty P ty td s z by_) (hf:Xk td=true) (hc:qh w0 H b i v):XW P w0 env H (.cell t ty) v
def qbP (tmps:Array Value):ResultVar→Sem Value
  | .tmp t=>pure (tmps.getD t undef)
  | .cell a t=>do loadVar t (← asAddr (tmps.getD a undef))
theorem XW.run {P:Program} {w0 w:World} {env:Env} {H:qe} {r:ResultVar} {v:Value} {n:Nat} {a:Act} (h:XW P w0 env H r v) (ha:zx n env a) (hs:Sat w0 H w):(qbP a.tmps r).run P w=.ok v w:=by
  cases h with
  | tmp h=>simp [qbP,ha.val _ _ h]
  | @own t ty b s e tot by_ td z vs hv ht hf hm hl =>
    have hc:QI w0 H b 0 vs:=QI.own hm (by simp)
    have hcs:=run_loadCells_list (P:=P) (w:=w) ⟨b,0,none⟩ vs (fun j u hu=>by rw [Qh]; exact hc j u hu w hs)
    rw [hl] at hcs
    simp [qbP,ha.val _ _ hv,asAddr,loadVar,ht.isAgg,ht.size,hf,hcs,Result.andThen]
  | one hv ht hf hc=>simp [qbP,ha.val _ _ hv,asAddr,loadVar,ht.isAgg,hf,hc w hs,Result.andThen]
section
variable {P:Program} {w0:World} {fn:Func} {R:Value→qe→Prop} {n:Nat} {ds:List Deferred} {k:List It} {env:Env} {H H' H2:qe} {r1 r2 r3:ResultVar} {v1 v2 v3:Value}
theorem qa0 (fn:Func) (tmps:Array Value):results fn tmps=(do let vs ← fn.results.mapM (qbP tmps); pure (if h:vs.size=1 then vs[0] else .tuple vs)):=by
  unfold results qbP; rfl
theorem qfB {a:Act} {w:World} (hr:fn.results=#[r1,r2]) (h1:XW P w0 env H r1 v1) (h2:XW P w0 env H r2 v2) (ha:zx n env a) (hs:Sat w0 H w):(results fn a.tmps).run P w=.ok (.tuple #[v1,v2]) w:=by
  have e1:=h1.run ha hs
  have e2:=h2.run ha hs
  simp [qa0,hr,e1,e2,Result.andThen]
theorem qfA {a:Act} {w:World} (hr:fn.results=#[r1,r2,r3]) (h1:XW P w0 env H r1 v1) (h2:XW P w0 env H r2 v2) (h3:XW P w0 env H r3 v3) (ha:zx n env a) (hs:Sat w0 H w):(results fn a.tmps).run P w=.ok (.tuple #[v1,v2,v3]) w:=by
  have e1:=h1.run ha hs
  have e2:=h2.run ha hs
  have e3:=h3.run ha hs
  simp [qa0,hr,e1,e2,e3,Result.andThen]
theorem zC (hr:fn.results=#[r1,r2]) (hM:YJ ds H H') (h1:XW P w0 env H' r1 v1) (h2:XW P w0 env H' r2 v2) (hu:qr H' H2) (hR:R (.tuple #[v1,v2]) H2):W P none w0 (KO P w0 fn R) n ds (.code .ret::k) env H :=
  qbA fun a w ha hd hs=>by
    show LeavesInM _ _ _ _ _ _ a.defers _ _
    rw [hd]
    exact QW hM hu (fun w hs'=>qfB hr h1 h2 ha hs') hs hR
theorem qff (hr:fn.results=#[r1,r2,r3]) (hM:YJ ds H H') (h1:XW P w0 env H' r1 v1) (h2:XW P w0 env H' r2 v2) (h3:XW P w0 env H' r3 v3) (hu:qr H' H2) (hR:R (.tuple #[v1,v2,v3]) H2):W P none w0 (KO P w0 fn R) n ds (.code .ret::k) env H :=
  qbA fun a w ha hd hs=>by
    show LeavesInM _ _ _ _ _ _ a.defers _ _
    rw [hd]
    exact QW hM hu (fun w hs'=>qfA hr h1 h2 h3 ha hs') hs hR
end
end Go.Sl
namespace Go.Sl
open Go.RowKit
section
variable {P:Program} {rd:Option Nat} {w0:World} {Q:Exit→Act→World→Prop} {n:Nat} {ds:List Deferred} {k:List It} {env env':Env} {H H':qe} {all:Array Oper} {rest:List Oper}
variable {d:Nat} {x y c:Operand} {t u ty:TypeId} {pos:String} {aft:Array Edge} {v:Value}
def b8 (l:List Int):List UInt8:=l.map fun z=>UInt8.ofNat z.toNat
end
end Go.Sl
namespace Go.Sl
open Go.RowKit
section
variable {P:Program} {ops:Array Oper} {C:World→Prop} {Q:Exit→Act→World→Prop}
def Jq (P:Program) (ops:Array Oper) (C:World→Prop) (Q:Exit→Act→World→Prop):Nat→Array Bool→Act→World→Prop
  | 0,l,a,w=>C w∧Region.ready .any ops l=[]∧Q .normal a w
  | f+1,l,a,w=>C w∧(Region.ready .any ops l=[]→Q .normal a w)∧∀ i∈Region.ready .any ops l,wpOpIn (fen none) 0 P ops Q i (Jq P ops C Q f (l.setIfInBounds i true)) a w
theorem Jq.any:∀ {f:Nat} {l:Array Bool} {a:Act} {w:World},Jq P ops C Q f l a w→wpAnyIn (fen none) 0 P .any ops Q f l a w
  | 0,_,_,_,h=>h.2
  | f+1,_,_,_,h=>⟨h.2.1,fun i hi=>wpOpIn_mono (fun _ _ h=>h.any) (h.2.2 i hi)⟩
structure Je (P:Program) (ops:Array Oper) (C:World→Prop) (o:Oper) (v:Value) (a:Act):Prop where
  wanted:Region.wanted o (yielded ops a.tmps)=true
  run:∀ w,C w→(execOp a.eval o).run P w=.ok (.value v) w
  about:∀ w,C w→o.about P w a.eval=none
structure XK (P:Program) (ops:Array Oper) (o o':Oper) (a a':Act):Prop where
  run:execOp a'.eval o=execOp a.eval o
  wanted:Region.wanted o (yielded ops a'.tmps)=Region.wanted o (yielded ops a.tmps)
  about:∀ w,o.about P w a'.eval=o.about P w a.eval
theorem Je.pass {o o':Oper} {v:Value} {a a':Act} (h:Je P ops C o v a) (hs:XK P ops o o' a a'):Je P ops C o v a' :=
  ⟨hs.wanted.trans h.wanted,fun w hw=>by rw [hs.run]; exact h.run w hw,fun w hw=>by rw [hs.about]; exact h.about w hw⟩
theorem Je.op {i:Nat} {o:Oper} {v:Value} {a:Act} {w:World} {K:Act→World→Prop} (hi:ops[i]?=some o) (hy:Je P ops C o v a) (hw:C w) (h:K (a.put o.dst v) w):wpOpIn (fen none) 0 P ops Q i K a w:=by
  unfold Go.wpOpIn
  simp only [hi,hy.wanted,if_true,Oper.wpIn,Oper.semAt_none,hy.run w hw,Oper.uponIn]
  exact ⟨fun f hf=>(by rw [hy.about w hw] at hf; cases hf),h⟩
theorem JI {j:Nat} {oi oj:Oper} {v:Value} (hj:ops[j]?=some oj) (hap:oi.apart ops oj=true) (hsi:∀ cs b,oi.op≠.select cs b) (hsj:∀ cs b,oj.op≠.select cs b)
    (hQ:∀ c a w,Q (.panic c) (a.put oi.dst v) w→Q (.panic c) a w) {K:Act→World→Prop} {a:Act} {w:World} (h:wpOpIn (fen none) 0 P ops Q j K (a.put oi.dst v) w) :
    wpOpIn (fen none) 0 P ops Q j (fun a' w'=>XK P ops oi oj a a'∧K (a'.put oi.dst v) w') a w:=by
  obtain ⟨h1,h2,h3⟩:=Oper.apart_spec hap
  have keep:∀ u,XK P ops oi oj a (a.put oj.dst u):=fun u=>⟨execOp_put oi hsi a oj.dst u h3,wanted_put oi a oj.dst u h3,fun w=>about_put oi w a oj.dst u h3⟩
  have keepD:∀ d u,XK P ops oi oj a (Act.put { a with defers:=d::a.defers } oj.dst u):=fun d u=>by
    have h:=(⟨execOp_put oi hsi { a with defers:=d::a.defers } oj.dst u h3,wanted_put oi { a with defers:=d::a.defers } oj.dst u h3,fun w=>about_put oi w { a with defers:=d::a.defers } oj.dst u h3⟩:XK P ops oi oj { a with defers:=d::a.defers } _)
    exact ⟨h.run,h.wanted,h.about⟩
  unfold wpOpIn at *
  simp only [hj] at *
  rw [wanted_put oj a oi.dst v h1,about_put oj w a oi.dst v h1] at h
  split
  · rename_i hw
    simp only [hw,if_true] at h
    unfold Oper.wpIn at *
    rw [about_put oj w a oi.dst v h1] at h
    refine ⟨h.1,?_⟩
    have h:=h.2
    rw [Oper.semAt_none,execOp_put oj hsj a oi.dst v h1] at h
    rw [Oper.semAt_none]
    generalize (execOp a.eval oj).run P w=r at *
    cases r with
    | ok x w' =>
      cases x <;> simp only [Oper.uponIn] at h ⊢
      case value u=>exact ⟨keep u,by rw [← Act.put_comm a v u h2]; exact h⟩
      case skip=>exact ⟨keep _,by rw [← Act.put_comm a v undef h2]; exact h⟩
      case defer d =>
        refine ⟨keepD d _,?_⟩
        rw [← Act.put_comm _ v undef h2,← Act.put_defers]
        exact h
      case enter f args =>
        refine ⟨h.1,CallsIn.mono h.2 fun e w'' he=>?_⟩
        cases e with
        | returned u=>exact ⟨keep u,by rw [← Act.put_comm a v u h2]; exact he⟩
        | panicked c=>exact hQ _ _ _ he
        | outgrown=>exact he
      case row row args=>exact ⟨h.1,RowsIn.mono h.2 fun u w'' he=>⟨keep u,by rw [← Act.put_comm a v u h2]; exact he⟩⟩
      case round l f tmps assign body =>
        refine ⟨h.1,RoundIn.mono h.2 fun e w'' he=>?_⟩
        cases e with
        | returned u=>exact ⟨keep u,by rw [← Act.put_comm a v u h2]; exact he⟩
        | panicked c=>exact hQ _ _ _ he
        | outgrown=>exact he
    | halt x w' =>
      cases x <;> simp only [Oper.uponIn] at h ⊢
      case panic u=>exact hQ _ _ _ h
  · rename_i hw
    simp only [hw] at h
    exact ⟨h.1,keep _,by rw [← Act.put_comm a v undef h2]; exact h.2⟩
theorem J4 {i:Nat} {oi:Oper} {v:Value} (hi:ops[i]?=some oi) (hsel:∀ (j:Nat) (o:Oper) cs b,ops[j]?=some o→o.op≠.select cs b) (hQ:∀ c a w,Q (.panic c) (a.put oi.dst v) w→Q (.panic c) a w) :
    ∀ (f:Nat) (l:Array Bool) (a:Act) (w:World),
      (∀ j oj,ops[j]?=some oj→j≠i→l.getD j true=false→(∀ e∈oj.after,Region.binds .any e=true→e.on≠i)→oi.apart ops oj=true) →
      i∈Region.ready .any ops l→Je P ops C oi v a→Jq P ops C Q f (l.setIfInBounds i true) (a.put oi.dst v) w→Jq P ops C Q (f+1) l a w:=by
  intro f
  induction f with
  | zero =>
    intro l a w _ hr hy H
    refine ⟨H.1,fun h=>(by rw [h] at hr; cases hr),fun j hj=>?_⟩
    by_cases hji:j=i
    · subst hji; exact hy.op hi H.1 H
    · have:=ready_mono hj hji
      rw [H.2.1] at this
      cases this
  | succ f ih =>
    intro l a w hfree hr hy H
    refine ⟨H.1,fun h=>(by rw [h] at hr; cases hr),fun j hj=>?_⟩
    by_cases hji:j=i
    · subst hji; exact hy.op hi H.1 H
    · have h1:=H.2.2 j (ready_mono hj hji)
      obtain ⟨hjun,oj,hoj,hall⟩:=mem_ready.1 hj
      have hnot:∀ e∈oj.after,Region.binds .any e=true→e.on≠i:=fun e he hb heq=>by
        have h1:=hall e he hb
        have h0:=(mem_ready.1 hr).1
        rw [heq] at h1
        rcases Nat.lt_or_ge i l.size with h' | h'
        · simp [h'] at h0 h1; rw [h0] at h1; cases h1
        · simp [Array.getElem?_eq_none h'] at h1
      have h2:=JI hoj (hfree j oj hoj hji hjun hnot) (fun cs b=>hsel i oi cs b hi) (fun cs b=>hsel j oj cs b hoj) hQ h1
      have hfree':∀ k ok,ops[k]?=some ok→k≠i→(l.setIfInBounds j true).getD k true=false →
          (∀ e∈ok.after,Region.binds .any e=true→e.on≠i)→oi.apart ops ok=true:=fun k ok hk hki hun hno=>by
        refine hfree k ok hk hki ?_ hno
        by_cases hjk:j=k
        · subst hjk; exact hjun
        · rw [getD_set_ne true hjk] at hun; exact hun
      refine wpOpIn_mono (fun a' w' h3=>ih (l.setIfInBounds j true) a' w' hfree' (ready_mono hr (Ne.symm hji)) (hy.pass h3.1) ?_) h2
      rw [Array.setIfInBounds_comm _ _ hji]
      exact h3.2
end
section
variable {P:Program} {w0:World} {Q:Exit→Act→World→Prop} {n:Nat} {ds:List Deferred} {k:List It} {env env':Env} {H H' Hc:qe} {ops:Array Oper}
def WC (P:Program) (w0:World) (Q:Exit→Act→World→Prop) (n:Nat) (ds:List Deferred) (k:List It) (ops:Array Oper) (Hc:qe) (fuel:Nat) (listed:Array Bool) (env:Env) (H:qe):Prop :=
  ∀ a w,zx n env a→a.defers=ds→Sat w0 H w→Jq P ops (Sat w0 Hc) (Q0 P Q k) fuel listed a w
theorem zy {id:Nat} {l:List Oper} (Hc:qe) (hm:P.follows .mixedOrders=true) (h:WC P w0 Q n ds k l.toArray Hc l.length (Array.replicate l.length false) env H):W P none w0 Q n ds (.code (.region id l.toArray true)::k) env H:=by
  intro a w ha hd hs
  show (Code.region id l.toArray true).wpIn (fen none) 0 P (Qx P none Q k) a w
  exact wpIn_mono (wpIn_region_any hm (by simpa using (h a _ ha hd hs.drew).any)) fun _ _ _=>qdS
theorem WC_done {fuel:Nat} {listed:Array Bool} (hh:qr H Hc) (hr:Region.ready .any ops listed=[]) (h:W P none w0 Q n ds k env H):WC P w0 Q n ds k ops Hc fuel listed env H:=fun a w ha hd hs=>by
  have hq:Q0 P Q k .normal a w:=h a w ha hd hs
  cases fuel with
  | zero=>exact ⟨hs.hsub hh,hr,hq⟩
  | succ f=>exact ⟨hs.hsub hh,fun _=>hq,by rw [hr]; simp⟩
def Yv:Op→Bool
  | .call ⟨.builtin _,_,_⟩=>true
  | .call _=>false
  | _=>true
theorem QC {o:Oper} (h:Yv o.op=true) (w:World) (ρ:Operand→Value):o.about P w ρ=none:=by
  unfold Oper.about
  cases ho:o.op <;> first | rfl | skip
  rename_i c
  obtain ⟨c,args,tys⟩:=c
  rw [ho] at h
  cases c with
  | builtin b=>simp [resolve,Result.andThen,Target.leads]
  | _=>simp [Yv] at h
theorem qm (i:Nat) {op:Op} {ty:TypeId} {v:Value} {d:Nat} {pos:String} {aft:Array Edge} {fuel:Nat} {listed l':Array Bool} (hi:ops[i]?=some ⟨some d,op,ty,pos,aft,none⟩) (hs:Region.noSelect ops=true) (hf:Region.free .any ops listed i=true) (hr:(Region.ready .any ops listed).contains i=true)
    (hcall:Yv op=true) (hl:listed.setIfInBounds i true=l') (hx:Ex P n env (Sat w0 Hc) op ty v) (hd:Nat.blt d n=true)
    (h:WC P w0 Q n ds k ops Hc fuel l' ((d,v)::env) H):WC P w0 Q n ds k ops Hc (fuel+1) listed env H:=fun a w ha hds hsat=>by
  subst hl
  exact J4 hi (Region.noSelect_spec hs) (fun _ _ _ hq=>hq.elim) fuel listed a w (Region.free_spec hi hf) (by simpa using hr)
    ⟨by simp [Region.wanted],fun w hw=>hx a w _ _ _ _ ha hw,fun w _=>QC hcall w _⟩ (h _ w (ha.put (d:=some d) hd) hds hsat)
theorem Y9 {i:Nat} {o:Oper} {K:Act→World→Prop} {a:Act} {w:World} (hi:ops[i]?=some o) (h1:wpListIn (fen none) 0 P ops (Qx P none (fun _ _ _=>False) [.goal K]) [o] a w):wpOpIn (fen none) 0 P ops (Q0 P Q k) i K a w:=by
  unfold wpOpIn
  rw [hi]
  unfold wpListIn at h1
  show if _ then _ else _
  split
  · rename_i hw
    rw [if_pos hw] at h1
    unfold Oper.wpIn
    refine ⟨h1.1,?_⟩
    have h2:=h1.2
    generalize (o.semAt (fen none).round a.eval).run P w=r at h2 ⊢
    cases r with
    | ok x w' =>
      cases x <;> simp only [Oper.uponIn] at h2 ⊢ <;>
        first
          | exact h2
          | exact ⟨h2.1,CallsIn.mono h2.2 (fun e w'' he=>by cases e <;> first | exact he | exact he.elim | (obtain ⟨_,_,hf⟩:=he; exact hf.elim))⟩
          | exact ⟨h2.1,RowsIn.mono h2.2 (fun _ _ he=>he)⟩
          | exact ⟨h2.1,RoundIn.mono h2.2 (fun e w'' he=>by cases e <;> first | exact he | exact he.elim | (obtain ⟨_,_,hf⟩:=he; exact hf.elim))⟩
    | halt x w'=>cases x <;> simp only [Oper.uponIn] at h2 ⊢ <;> first | exact h2 | exact h2.elim
  · rename_i hw
    rw [if_neg hw] at h1
    exact h1
theorem qJ (i:Nat) {o:Oper} {fuel:Nat} {listed l':Array Bool} (hh:qr H Hc) (hr:Region.ready .any ops listed=[i]) (hi:ops[i]?=some o) (hl:listed.setIfInBounds i true=l')
    (h:W P none w0 (fun _ _ _=>False) n ds [.ops ops [o],.goal (fun a w=>Jq P ops (Sat w0 Hc) (Q0 P Q k) fuel l' a w)] env H):WC P w0 Q n ds k ops Hc (fuel+1) listed env H:=fun a w ha hds hsat=>by
  subst hl
  refine ⟨hsat.hsub hh,fun h0=>(by rw [hr] at h0; cases h0),fun j hj=>?_⟩
  rw [hr] at hj
  obtain rfl:j=i:=by simpa using hj
  exact Y9 hi (h a w ha hds hsat)
theorem qac (i j:Nat) {o o':Oper} {fuel:Nat} {listed l' l'':Array Bool} (hh:qr H Hc) (hr:Region.ready .any ops listed=[i,j]) (hi:ops[i]?=some o) (hj:ops[j]?=some o') (hl:listed.setIfInBounds i true=l') (hl':listed.setIfInBounds j true=l'')
    (h:W P none w0 (fun _ _ _=>False) n ds [.ops ops [o],.goal (fun a w=>Jq P ops (Sat w0 Hc) (Q0 P Q k) fuel l' a w)] env H)
    (h':W P none w0 (fun _ _ _=>False) n ds [.ops ops [o'],.goal (fun a w=>Jq P ops (Sat w0 Hc) (Q0 P Q k) fuel l'' a w)] env H):WC P w0 Q n ds k ops Hc (fuel+1) listed env H:=fun a w ha hds hsat=>by
  subst hl hl'
  refine ⟨hsat.hsub hh,fun h0=>(by rw [hr] at h0; cases h0),fun x hx=>?_⟩
  rw [hr] at hx
  rcases (show x=i∨x=j by simpa using hx) with rfl | rfl
  · exact Y9 hi (h a w ha hds hsat)
  · exact Y9 hj (h' a w ha hds hsat)
theorem WC_goal {fuel:Nat} {l':Array Bool} {k':List It} {Q':Exit→Act→World→Prop} (h:WC P w0 Q n ds k ops Hc fuel l' env H):W P none w0 Q' n ds (.goal (fun a w=>Jq P ops (Sat w0 Hc) (Q0 P Q k) fuel l' a w)::k') env H :=
  YV fun a w ha hd hs=>h a w ha hd hs
theorem qmf {c:Code} (env':Env) (H':qe) (h1:W P none w0 (fun _ _ _=>False) n ds [.code c,.goal (qdW w0 n ds env' H')] env H) (h:W P none w0 Q n ds k env' H'):W P none w0 Q n ds (.code c::k) env H:=fun a w ha hd hs=>by
  show c.wpIn (fen none) 0 P (Qx P none Q k) a w
  refine wpIn_mono (h1 a w ha hd hs) fun e a2 w2 hq=>?_
  cases e with
  | normal=>exact h a2 w2 hq.1 hq.2.1 hq.2.2
  | exit id=>exact hq.elim
  | goto l=>exact hq.elim
  | ret=>exact hq.elim
  | panic ch=>exact hq.elim
  | outgrown=>exact hq.elim
end
end Go.Sl
namespace Go.Sl
open Go.RowKit
section
variable {P:Program} {rd:Option Nat} {w0:World} {Q:Exit→Act→World→Prop} {n:Nat} {ds:List Deferred} {k:List It} {env env':Env} {H H':qe}
def CutJ (w0:World) (n:Nat) (ds:List Deferred) {X:Type} (E:X→Env) (HH:X→qe) (I:X→Prop) (a:Act) (w:World):Prop:=∃ x,I x∧zx n (E x) a∧a.defers=ds∧Sat w0 (HH x) w
theorem qbD {X:Type} {c:Code} (E:X→Env) (HH:X→qe) (I:X→Prop) (h1:W P rd w0 (fun _ _ _=>False) n ds [.code c,.goal (CutJ w0 n ds E HH I)] env H) (h:∀ x,I x→W P rd w0 Q n ds k (E x) (HH x)):W P rd w0 Q n ds (.code c::k) env H:=fun a w ha hd hs=>by
  show c.wpIn (fen rd) 0 P (Qx P rd Q k) a w
  refine wpIn_mono (h1 a w ha hd hs) fun e a2 w2 hq=>?_
  cases e with
  | normal =>
    obtain ⟨x,hI,hA,hD,hS⟩:=hq
    exact h x hI a2 w2 hA hD hS
  | exit id=>exact hq.elim
  | goto l=>exact hq.elim
  | ret=>exact hq.elim
  | panic ch=>exact hq.elim
  | outgrown=>exact hq.elim
theorem Z0 {X:Type} {E:X→Env} {HH:X→qe} {I:X→Prop} {k':List It} (x:X) (hI:I x) (he:sub (E x) env) (hh:qr H (HH x)):W P rd w0 Q n ds (.goal (CutJ w0 n ds E HH I)::k') env H :=
  YV fun _ _ ha hd hs=>⟨x,hI,ha.weaken (Yj he),hd,hs.hsub hh⟩
theorem qaK {t ty:TypeId} {s by_:Nat} {z:Value} {td:TypeDesc} {pl:List (Nat × Nat)} {parts:List (Nat × Operand)} {ps:List (Nat × List Value)} {l:List Value} {C:World→Prop} (ht:Ty P t td s z by_) (hst:zv P t pl)
    (hp:XL env (fun i=>pl[i]?) s parts ps) (hz:Nat.beq z.cells.size s=true) (hl:KB z.cells.toList ps=l):Ex P n env C (.build t parts.toArray) ty (.agg l.toArray):=fun a w d pos aft g ha _=>by
  obtain ⟨fs,h1,h2⟩:=hst.is
  obtain ⟨out,ho,hol⟩:=hp.run ha (cells:=z.cells) (by simpa using hz)
  have hout:out=l.toArray:=by apply Array.ext'; rw [hol,hl]
  have h2':=h2 w
  have ho':Instr.fill (pl.toArray[·]?) z.cells (parts.map fun (i,x)=>(i,a.eval x))=some out:=by simpa using ho
  have hr:(Instr.build t (parts.map fun (i,x)=>(i,a.eval x)).toArray).run P w=.ok (.agg l.toArray) w:=by
    unfold Instr.build
    simp only [Sem.run_bind,ht.zero,Result.andThen,run_underlying h1]
    rw [h2']
    simp only [ho',hout,Sem.run_pure]
  simp [execOp,hr,Result.andThen]
theorem qgl {b o len cap l hh s es by_ eb d':Nat} {x:Operand} {t ty:TypeId} {lo hi:Option Operand} {e:TypeId} {z ez:Value} {ed:TypeDesc} {C:World→Prop} (hx:opv env x=some (.slice (some ⟨b,o,none⟩) len cap)) (ht:Ty P t (.slice e) s z by_) (he:Ty P e ed es ez eb)
    (hlo:Jy env 0 lo l) (hhi:Jy env len hi hh) (h1:l≤hh) (h2:hh≤cap) (hd':d'=if cap=l then o else o+l*es):Ex P n env C (.slice t x lo hi none) ty (.slice (some ⟨b,d',none⟩) (hh-l) (cap-l)):=fun a w d pos aft g ha _=>by
  subst hd'
  have:=ZG (P:=P) (w:=w) (ad:=some ⟨b,o,none⟩) ha ht he hlo hhi h1 h2
  have ea:(if cap=l then some (⟨b,o,none⟩:Addr) else (some (⟨b,o,none⟩:Addr)).map (·.add (l*es)))=some ⟨b,if cap=l then o else o+l*es,none⟩:=by
    split <;> simp [Qh]
  rw [ea] at this
  simp [execOp,ha.opv hx,this,Result.andThen]
theorem Holds.drop {b o o' m cap:Nat} {xs:List Value} (h:Holds w0 H (some ⟨b,o,none⟩) xs) (hl:xs.length≤cap) (ho:m<cap→o'=o+m):Holds w0 H (some ⟨b,o',none⟩) (xs.drop m):=fun j x hx=>by
  rw [List.getElem?_drop] at hx
  have hj:=(List.getElem?_eq_some_iff.1 hx).1
  obtain ⟨b1,o1,e,hc⟩:=h _ _ hx
  cases e
  rw [ho (by omega)]
  exact ⟨b,_,rfl,by rw [Nat.add_assoc]; exact hc⟩
end
end Go.Sl
namespace Go.Sl
open Go.RowKit
section
variable {P:Program} {rd:Option Nat} {w0:World} {Q:Exit→Act→World→Prop} {n:Nat} {ds:List Deferred} {k:List It} {env env':Env} {H H':qe} {all:Array Oper} {rest:List Oper}
variable {d:Nat} {x y c:Operand} {t u ty:TypeId} {pos:String} {aft:Array Edge} {v:Value}
theorem qaY {ad:Option Addr} {s by_:Nat} {e:TypeId} {z:Value} (ht:Ty P t (.pointer e) s z by_) (w:World):(Op.equal t (.pointer ad) (.pointer none)).run P w=.ok ad.isNone w:=by
  have h1:∀ m,(Op.equalIn (m+1) t (.pointer ad) (.pointer none)).run P w=.ok ad.isNone w:=fun m=>by
    simp only [Op.equalIn,Sem.run_bind,ht.run,Result.andThen]
    cases ad <;> rfl
  exact h1 9999
theorem qE {ad:Option Addr} {s by_:Nat} {e:TypeId} {z:Value} {C:World→Prop} (hx:opv env x=some (.pointer ad)) (hy:opv env y=some (.pointer none)) (ht:Ty P t (.pointer e) s z by_) :
    Ex P n env C (.binOp .eql t x y u) ty (.bool ad.isNone):=fun a w d pos aft g ha _=>by
  have he:(eqGuard .eql t x y (.pointer ad) (.pointer none)).run P w=.ok () w:=by simp [eqGuard]
  have h2:(Go.binOp .eql t (.pointer ad) (.pointer none)).run P w=.ok (.bool ad.isNone) w:=by
    simp [Go.binOp,qaY ht,Result.andThen]
  simp [execOp,ha.opv hx,ha.opv hy,he,h2,Result.andThen]
theorem QD {ad:Option Addr} {s by_:Nat} {e:TypeId} {z:Value} {C:World→Prop} (hx:opv env x=some (.pointer ad)) (hy:opv env y=some (.pointer none)) (ht:Ty P t (.pointer e) s z by_) :
    Ex P n env C (.binOp .neq t x y u) ty (.bool (!ad.isNone)):=fun a w d pos aft g ha _=>by
  have he:(eqGuard .neq t x y (.pointer ad) (.pointer none)).run P w=.ok () w:=by simp [eqGuard]
  have h2:(Go.binOp .neq t (.pointer ad) (.pointer none)).run P w=.ok (.bool (!ad.isNone)) w:=by
    simp [Go.binOp,qaY ht,Result.andThen]
  simp [execOp,ha.opv hx,ha.opv hy,he,h2,Result.andThen]
theorem qbz {b o len l hh s es by_ eb:Nat} {lo hi:Option Operand} {e:TypeId} {z ez:Value} {ed:TypeDesc} {C:World→Prop} (hx:opv env x=some (.pointer (some ⟨b,o,none⟩))) (ht:Ty P t (.array len e) s z by_) (he:Ty P e ed es ez eb)
    (hlo:Jy env 0 lo l) (hhi:Jy env len hi hh) (h1:l≤hh) (h2:hh≤len) (h3:l<len):Ex P n env C (.slice t x lo hi none) ty (.slice (some ⟨b,o+l*es,none⟩) (hh-l) (len-l)):=fun a w d pos aft g ha _=>by
  have hb:(Instr.sliceBounds false len len (lo.map a.eval) (hi.map a.eval) none).run P w=.ok (l,hh,len) w:=by
    cases lo with
    | none =>
      have hl:l=0:=hlo
      subst hl
      cases hi with
      | none=>have:hh=len:=hhi; subst this; simp [Instr.sliceBounds,Result.andThen]
      | some o=>obtain ⟨q,hq⟩:=hhi; simp [Instr.sliceBounds,ha.opv hq,Instr.sliceBound,asIntOf,h2,Result.andThen]
    | some o' =>
      obtain ⟨q',hq'⟩:=hlo
      cases hi with
      | none=>have:hh=len:=hhi; subst this; simp [Instr.sliceBounds,ha.opv hq',Instr.sliceBound,asIntOf,h1,Result.andThen]
      | some o=>obtain ⟨q,hq⟩:=hhi; simp [Instr.sliceBounds,ha.opv hq,ha.opv hq',Instr.sliceBound,asIntOf,h1,h2,Result.andThen]
  have hne:¬ len=l:=by omega
  simp [execOp,Instr.sliceAt,ha.opv hx,ht.run,Instr.sureAddr,hb,he.size,Result.andThen,hne,Qh]
theorem qm9 {b o dlen dcap m cap kk s sl bl bytes tot:Nat} {ad:Option Addr} {e e':TypeId} {zl z:Value} {de:TypeDesc} {l l' news:List Value} {od:Option Nat} (hx:opv env x=some (.slice (some ⟨b,o,none⟩) dlen dcap)) (hy:opv env y=some (.slice ad m cap)) (ht:Ty P t (.slice e) sl zl bl) (he:Ty P e de s z bytes)
    (hk:min m dlen=kk) (hl:news.length=kk*s) (hnews:Holds w0 H ad news) (h1:news.all Value.oneCell'=true) (hm:(b,Blk.cells e' tot l)∈H) (hi:o+news.length≤l.length) (hl':zf l o news=l') (hu:Upd b (.cells e' tot l) (.cells e' tot l') H H') (hd:dok n od=true)
    (h:W P rd w0 Q n ds (.ops all rest::k) (put od (.int .i64 (kk:Int)) env) H'):W P rd w0 Q n ds (.ops all (⟨od,.call ⟨.builtin .copy,#[x,y],#[t,u]⟩,ty,pos,aft,none⟩::rest)::k) env H :=
  Js rfl nofun hd fun a w ha hs=>by
    subst hl' hk
    obtain ⟨hb,cur,hc,hsz,htk⟩:=hs.own _ hm
    have hlen:l.length≤cur.size:=by
      have:=congrArg List.length htk
      simp only [List.length_take,Array.length_toList] at this
      omega
    have h1':∀ v∈news,v.oneCell'=true:=fun v hv=>List.all_eq_true.1 h1 v hv
    have hst:=run_storeCells_at P b o e' news 0 cur w hc (by omega) h1'
    simp only [Nat.add_zero] at hst
    have hfc:(Builtin.firstCells s (min m dlen) (.slice ad m cap)).run P w=.ok news.toArray w:=by
      cases ad with
      | none =>
        have:news=[]:=by
          cases hn:news with
          | nil=>rfl
          | cons y ys =>
            obtain ⟨_,_,e,_⟩:=hnews 0 y (by rw [hn]; rfl)
            cases e
        subst this
        simp [Builtin.firstCells]
      | some a0 =>
        obtain ⟨b1,o1,sp⟩:=a0
        by_cases hz:news=[]
        · subst hz
          have h0:min m dlen*s=0:=by simpa using hl.symm
          have:=run_loadCells_list (P:=P) (w:=w) ⟨b1,o1,sp⟩ [] (fun j u hu=>by simp at hu)
          simp only [List.length_nil] at this
          simp [Builtin.firstCells,h0,this,Result.andThen]
        · have hpos:0<news.length:=List.length_pos_iff.2 hz
          obtain ⟨b2,o2,e2,_⟩:=hnews 0 _ (List.getElem?_eq_getElem hpos)
          cases e2
          have:=run_loadCells_list (P:=P) (w:=w) ⟨b1,o1,none⟩ news (fun j u hu=>by
            obtain ⟨b3,o3,e3,hc3⟩:=hnews j u hu
            cases e3
            rw [Qh]; exact hc3 w hs)
          rw [hl] at this
          simp [Builtin.firstCells,this,Result.andThen]
    refine ⟨.int .i64 ((min m dlen:Nat):Int),H',_,.inl ?_,hs.upd hu (Zr (cs:=(List.take o cur.toList++news++List.drop (o+news.length) cur.toList).toArray) hb) (fun j hj _=>setRow_other w b j _ hj) ?_,h⟩
    · simp [execOp,resolve,invoke,builtin,Builtin.copy_,ha.opv hx,ha.opv hy,ht.run,he.size,Builtin.lenOf,hfc,hst,goInt,Result.andThen]
    · refine ⟨_,setRow_heap w b cur _ e' _ hc,?_,?_⟩
      · simp only [List.size_toArray,List.length_append,List.length_take,List.length_drop,Array.length_toList]
        omega
      · rw [ZS (by simpa using hi)]
        show (List.take o cur.toList++news++List.drop (o+news.length) cur.toList).take l.length=zf l o news
        unfold zf
        have e1:l.take o=cur.toList.take o:=by rw [← htk,List.take_take]; congr 1; omega
        have e2:l.drop (o+news.length)=(cur.toList.drop (o+news.length)).take (l.length-(o+news.length)):=by
          conv=>lhs; rw [← htk]
          rw [List.drop_take]
        rw [e1,e2,List.append_assoc,List.append_assoc,List.take_append,List.take_append]
        congr 1
        · rw [List.take_take]; congr 1; omega
        · congr 1
          · rw [List.take_of_length_le]; simp only [List.length_take,Array.length_toList]; omega
          · congr 1; simp only [List.length_take,Array.length_toList]; omega
end
end Go.Sl
namespace Go.Sl
open Go.RowKit
section
variable {P:Program} {w0:World} {Q:Exit→Act→World→Prop} {n:Nat} {ds:List Deferred} {k:List It} {env env':Env} {H H':qe} {ops:Array Oper}
theorem qlQ {i:Nat} {o:Oper} {K:Act→World→Prop} {a:Act} {w:World} (hi:ops[i]?=some o) (h1:wpListIn (fen none) 0 P ops (Qx P none (fun _ _ _=>False) [.goal K]) [o] a w):wpOpIn (fen none) 0 P ops (Q0 P Q k) i K a w:=Y9 hi h1
theorem qnd (i j:Nat) {o o':Oper} {fuel:Nat} {listed l' l'':Array Bool} (hr:Region.ready .any ops listed=[i,j]) (hi:ops[i]?=some o) (hj:ops[j]?=some o') (hl:listed.setIfInBounds i true=l') (hl':listed.setIfInBounds j true=l'')
    (h:W P none w0 (fun _ _ _=>False) n ds [.ops ops [o],.goal (fun a w=>wpAnyIn (fen none) 0 P .any ops (Q0 P Q k) fuel l' a w)] env H)
    (h':W P none w0 (fun _ _ _=>False) n ds [.ops ops [o'],.goal (fun a w=>wpAnyIn (fen none) 0 P .any ops (Q0 P Q k) fuel l'' a w)] env H):WA P w0 Q n ds k ops (fuel+1) listed env H:=fun a w ha hds hsat=>by
  subst hl hl'
  refine wpAnyIn_all hr (by simp) fun x hx=>?_
  rcases (show x=i∨x=j by simpa using hx) with rfl | rfl
  · exact qlQ hi (h a w ha hds hsat)
  · exact qlQ hj (h' a w ha hds hsat)
end
end Go.Sl
namespace Go.Sl
open Go.RowKit
theorem flat_take {α:Type} {f:α→List Value} {s:Nat} (hf:∀ x,(f x).length=s):∀ (l:List α) (k:Nat),(l.flatMap f).take (k*s)=(l.take k).flatMap f
  | [],k=>by simp
  | x::l,0=>by simp
  | x::l,k+1=>by
    rw [List.flatMap_cons,List.take_succ_cons,List.flatMap_cons,← flat_take hf l k,List.take_append,hf,List.take_of_length_le (by rw [hf,Nat.add_mul]; omega)]
    congr 2
    rw [Nat.add_mul]; omega
inductive Zc where
  | int (q:IntKind)
  | bool
  | string
def Zc.is:Zc→Value→Prop
  | .int q,v=>∃ m,v=.int q m∧q.min≤m∧m≤q.max
  | .bool,v=>∃ b,v=.bool b
  | .string,v=>∃ s:ByteArray,v=.string s∧s.size≤maxLen
def Zc.like:Zc→Value→Prop
  | .int q,v=>∃ m,v=.int q m
  | .bool,v=>∃ b,v=.bool b
  | .string,v=>∃ s:ByteArray,v=.string s
def YK:List Zc→List Value→Prop
  | [],[]=>True
  | k::ks,v::vs=>k.is v∧YK ks vs
  | _,_=>False
def Za:List Zc→List Value→Prop
  | [],[]=>True
  | k::ks,v::vs=>k.like v∧Za ks vs
  | _,_=>False
theorem ZJ {k:Zc} {ks:List Zc} {cs:List Value} (h:YK (k::ks) cs):∃ v vs,cs=v::vs∧k.is v∧YK ks vs:=by
  cases cs with
  | nil=>exact h.elim
  | cons v vs=>exact ⟨v,vs,rfl,h.1,h.2⟩
theorem qfP {cs:List Value} (h:YK [] cs):cs=[]:=by
  cases cs with
  | nil=>rfl
  | cons v vs=>exact h.elim
theorem YQ:∀ {ks ls:List Zc} {xs ys:List Value},YK ks xs→YK ls ys→YK (ks++ls) (xs++ys)
  | [],ls,[],ys,_,h=>h
  | k::ks,ls,x::xs,ys,h,h'=>⟨h.1,YQ h.2 h'⟩
  | [],_,_::_,_,h,_=>h.elim
  | _::_,_,[],_,h,_=>h.elim
theorem Kt:∀ {ks ls:List Zc} {zs:List Value},Za (ks++ls) zs→∃ xs ys,zs=xs++ys∧Za ks xs∧Za ls ys
  | [],ls,zs,h=>⟨[],zs,rfl,trivial,h⟩
  | k::ks,ls,[],h=>h.elim
  | k::ks,ls,z::zs,h=>by
    obtain ⟨xs,ys,rfl,h1,h2⟩:=Kt (ks:=ks) h.2
    exact ⟨z::xs,ys,rfl,⟨h.1,h1⟩,h2⟩
theorem Ks:∀ {ks:List Zc} {xs:List Value},Za ks xs→xs.length=ks.length
  | [],[],_=>rfl
  | k::ks,x::xs,h=>congrArg (·+1) (Ks h.2)
  | [],_::_,h=>h.elim
  | _::_,[],h=>h.elim
inductive XZ (P:Program) (F:TypeId→List Zc→Prop):List Field→Nat→List Zc→Prop
  | nil {off:Nat}:XZ P F [] off []
  | cons {f:Field} {fs:List Field} {off:Nat} {ks ls:List Zc} (hn:f.name≠"_") (ho:f.offset=off) (hc:P.cellsOf f.type=ks.length) (h:F f.type ks) (hs:XZ P F fs (off+ks.length) ls):XZ P F (f::fs) off (ks++ls)
def Zc.desc:Zc→TypeDesc
  | .int q=>.int q
  | .bool=>.bool
  | .string=>.string
def Zd (P:Program):Nat→TypeId→List Zc→Prop
  | 0,t,ks=>∃ (k:Zc) (s by_:Nat) (z:Value),ks=[k]∧Ty P t k.desc s z by_
  | n+1,t,ks=>(∃ (k:Zc) (s by_:Nat) (z:Value),ks=[k]∧Ty P t k.desc s z by_) ∨
    (∃ (s by_:Nat) (z:Value) (fs:Array Field),Ty P t (.struct fs) s z by_∧P.stoodInHeld t=false∧P.cellsOf t=ks.length∧XZ P (Zd P n) fs.toList 0 ks) ∨
    (∃ (m:Nat) (e:TypeId) (s by_:Nat) (z:Value) (ls:List Zc),ks=(List.replicate m ls).flatten∧Ty P t (.array m e) s z by_∧P.cellsOf e=ls.length∧P.cellsOf t=ks.length∧Zd P n e ls)
theorem Zd.leaf {P:Program} {n:Nat} {t:TypeId} {s by_:Nat} {z:Value} {k:Zc} (ht:Ty P t k.desc s z by_):Zd P n t [k]:=by
  cases n with
  | zero=>exact ⟨k,s,by_,z,rfl,ht⟩
  | succ n=>exact .inl ⟨k,s,by_,z,rfl,ht⟩
theorem Zd.struct {P:Program} {n:Nat} {t:TypeId} {s by_:Nat} {z:Value} {fs:Array Field} {ks:List Zc} (ht:Ty P t (.struct fs) s z by_) (hp:P.stoodInHeld t=false) (hc:P.cellsOf t=ks.length) (h:XZ P (Zd P n) fs.toList 0 ks):Zd P (n+1) t ks :=
  .inr (.inl ⟨s,by_,z,fs,ht,hp,hc,h⟩)
theorem Zd.array {P:Program} {n m:Nat} {t e:TypeId} {s by_:Nat} {z:Value} {ls ks:List Zc} (ht:Ty P t (.array m e) s z by_) (hks:ks=(List.replicate m ls).flatten) (hce:P.cellsOf e=ls.length) (hc:P.cellsOf t=ks.length) (h:Zd P n e ls):Zd P (n+1) t ks :=
  .inr (.inr ⟨m,e,s,by_,z,ls,hks,ht,hce,hc,h⟩)
section
variable {P:Program} {H:Type} {enc:TypeId × Value→H} {w:World} {base:Nat} {spare:Nat→Bool} {held:Bool}
theorem qlP {q:IntKind} {m:Int} (h:(Lit.int q m).wf=true):q.min≤m∧m≤q.max:=by
  simpa [Lit.wf] using h
theorem qbV {k:Zc} {t:TypeId} {s by_:Nat} {z:Value} (ht:Ty P t k.desc s z by_) {fuel:Nat} {cs:List Value} {x:DataW H × List MemPlace} (hx:DataW.trod enc P w base spare held fuel t cs=some x):YK [k] cs:=by
  cases k with
  | int q=>obtain ⟨m,rfl,_,hw⟩:=DataW.trod_int ht.und hx; exact ⟨⟨m,rfl,qlP hw⟩,trivial⟩
  | bool=>obtain ⟨b,rfl,_⟩:=DataW.trod_bool ht.und hx; exact ⟨⟨b,rfl⟩,trivial⟩
  | string=>obtain ⟨s,rfl,_,h⟩:=DataW.trod_string ht.und hx; exact ⟨⟨s,rfl,h⟩,trivial⟩
theorem qf0:∀ (n:Nat) {t:TypeId} {ks:List Zc},Zd P n t ks→∀ {fuel:Nat} {cs:List Value} {x:DataW H × List MemPlace},DataW.trod enc P w base spare held fuel t cs=some x→YK ks cs:=by
  intro n
  induction n with
  | zero =>
    intro t ks hf fuel cs x hx
    obtain ⟨k,s,by_,z,rfl,ht⟩:=hf
    exact qbV ht hx
  | succ n ih =>
    intro t ks hf fuel cs x hx
    rcases hf with ⟨k,s,by_,z,rfl,ht⟩ | ⟨s,by_,z,fs,ht,hp,hc,h⟩ | ⟨m,e,s,by_,z,ls,rfl,ht,hce,hc,h⟩
    · exact qbV ht hx
    · obtain ⟨xs,m,_,_,hl,hlen,hfs⟩:=DataW.trod_struct ht.und hx
      have key:∀ (l:List Field) (off:Nat) (ls:List Zc),XZ P (Zd P n) l off ls→(∀ f∈l,∃ y,DataW.trod enc P w base spare held m f.type ((cs.drop f.offset).take (P.cellsOf f.type))=some y)→off+ls.length=cs.length→YK ls (cs.drop off):=by
        intro l off ls hl
        induction hl with
        | @nil off=>intro _ he; rw [List.drop_of_length_le (by simp at he; omega)]; trivial
        | @cons f fs off ks ls hn ho hcf hF hs ih2 =>
          intro hall he
          subst ho
          obtain ⟨y,hy⟩:=hall f List.mem_cons_self
          have h1:=ih hF hy
          have h2:=ih2 (fun g hg=>hall g (List.mem_cons_of_mem _ hg)) (by rw [List.length_append] at he; omega)
          have h3:=YQ h1 h2
          rw [hcf,← List.drop_drop,List.take_append_drop] at h3
          exact h3
      have:=key fs.toList 0 ks h (fun f hf=>by
        obtain ⟨i,hi,rfl⟩:=List.getElem_of_mem hf
        have h1:=hfs i fs.toList[i] (by simp [Array.getElem?_eq_getElem (show i<fs.size by simpa using hi)])
        exact ⟨xs[i]'(by rw [hlen]; simpa using hi),by rw [h1,List.getElem?_eq_getElem]⟩) (by rw [hl,hc]; simp)
      simpa using this
    · obtain ⟨xs,d,_,_,hl,hlen,hxs⟩:=DataW.trod_array ht.und hx
      have key:∀ (r j:Nat),j+r=m→YK (List.replicate r ls).flatten (cs.drop (j*ls.length)):=by
        intro r
        induction r with
        | zero =>
          intro j hj
          obtain rfl:j=m:=by omega
          rw [List.drop_of_length_le (by rw [hl,hc]; simp)]; trivial
        | succ r ihr =>
          intro j hj
          have h1:=hxs j (by omega)
          rw [List.getElem?_eq_getElem (by omega)] at h1
          have h2:=ih h h1
          have h3:=YQ h2 (ihr (j+1) (by omega))
          rw [hce,Nat.add_mul,Nat.one_mul,← List.drop_drop,List.take_append_drop] at h3
          exact h3
      have:=key m 0 (by omega)
      simpa using this
theorem qfZ {α:Type} [Inhabited α] {f:α→List Value} {ok:α→Prop} {n:Nat} {t e:TypeId} {ks:List Zc} (ht:P.underlying t=some (.slice e)) (hF:Zd P n e ks) (hce:P.cellsOf e=ks.length) (hpos:0<ks.length)
    (hof:∀ cs,YK ks cs→∃ y:α,cs=f y∧ok y) (hlen:∀ y,(f y).length=ks.length) {fuel len cap:Nat} {a:Option Addr} {x:DataW H × List MemPlace}
    (hf:DataW.trod enc P w base spare held fuel t (Value.slice a len cap).cells.toList=some x) :
    ∃ l:List α,len=l.length∧l.length≤cap∧cap≤maxLen∧(∀ y∈l,ok y)∧Xq w a (l.flatMap f):=by
  rcases Go.Deep.open_slice ht hf with ⟨hcs,_⟩ | ⟨a',len',cap',m,n',D,Pl,hcs,_,hle,hmax,hm,_,hel⟩
  · simp [Value.cells] at hcs
    obtain ⟨rfl,rfl,rfl⟩:=hcs
    exact ⟨[],rfl,Nat.le_refl _,Nat.zero_le _,fun x hx=>(by simp at hx),Xq.nil⟩
  · simp [Value.cells] at hcs
    obtain ⟨rfl,rfl,rfl⟩:=hcs
    have hlm:len≤m:=by rw [hm]; split <;> omega
    have hall:∀ i,i<len→∃ y:α,w.cells? base (a'.add (i*ks.length)) ks.length=some (f y)∧ok y:=fun i hi=>by
      obtain ⟨cs,h1,h2⟩:=hel i (by omega)
      rw [hce] at h1
      obtain ⟨y,rfl,hy⟩:=hof _ (qf0 n hF h2)
      exact ⟨y,h1,hy⟩
    obtain ⟨Y,hY⟩:=Go.Deep.choose_lt hall
    refine ⟨(List.range len).map Y,by simp,by simpa using hle,hmax,fun x hx=>?_,Xq.of_spot fun j v hj=>?_⟩
    · obtain ⟨i,hi,rfl⟩:=List.mem_map.1 hx
      exact (hY i (List.mem_range.1 hi)).2
    · have hjl:j<len*ks.length:=by
        have:=(List.getElem?_eq_some_iff.1 hj).1
        rw [Xj hlen] at this
        simpa using this
      have hi:j/ks.length<len:=Nat.div_lt_of_lt_mul (by rw [Nat.mul_comm]; exact hjl)
      have hc:=(hY (j/ks.length) hi).1
      obtain ⟨_,_,hcell⟩:=World.cells?_some hc
      have hmod:j%ks.length<ks.length:=Nat.mod_lt _ hpos
      have h1:=hcell (j%ks.length) hmod
      have hk:j%ks.length<(f (Y (j/ks.length))).length:=by rw [hlen]; exact hmod
      have h2:=qaH (l:=(List.range len).map Y) hlen (i:=j/ks.length) (x:=Y (j/ks.length)) (by simp [hi]) (j%ks.length) _ (List.getElem?_eq_getElem hk)
      have hdm:j/ks.length*ks.length+j%ks.length=j:=by rw [Nat.mul_comm]; exact Nat.div_add_mod j ks.length
      rw [hdm] at h2
      rw [hj] at h2
      have aa:∀ (a:Addr) (m n:Nat),(a.add m).add n=a.add (m+n):=fun a m n=>by
        unfold Addr.add
        by_cases hm:m=0
        · subst hm; simp
        · by_cases hn:n=0
          · subst hn; simp [hm]
          · have h:m+n≠0:=by omega
            simp [hm,hn,Nat.add_assoc]
      rw [Option.some.inj h2,← List.getElem?_eq_getElem hk,← h1,aa,hdm]
end
end Go.Sl
namespace Go.Sl
open Go.RowKit
def XF (P:Program) (t:TypeId):Bool :=
  match P.underlying t with
  | some (.struct _) | some (.array _ _)=>true
  | _=>false
def Yd (P:Program) (t:TypeId) (xs:List Value):Value:=if XF P t then .agg xs.toArray else xs.headD undef
section
variable {P:Program}
theorem K1 {t:TypeId} {s by_:Nat} {z:Value} {k:Zc} (ht:Ty P t k.desc s z by_):XF P t=false:=by
  cases k <;> simp [XF,ht.und,Zc.desc]
theorem qeY {t:TypeId} {s by_:Nat} {z:Value} {k:Zc} (ht:Ty P t k.desc s z by_) {xs ys:List Value} (hx:Za [k] xs) (hy:Za [k] ys) :
    ∃ r:Bool,(r=true↔xs=ys)∧∀ d w,(Op.equalIn (d+1) t (Yd P t xs) (Yd P t ys)).run P w=.ok r w:=by
  have e1:∀ zs:List Value,Za [k] zs→∃ v,zs=[v]∧k.like v:=fun zs h=>by
    match zs,h with
    | [v],h=>exact ⟨v,rfl,h.1⟩
  obtain ⟨a,rfl,ha⟩:=e1 xs hx
  obtain ⟨b,rfl,hb⟩:=e1 ys hy
  simp only [Yd,K1 ht,Bool.false_eq_true,if_false,List.headD_cons]
  cases k with
  | int q =>
    obtain ⟨m,rfl⟩:=ha
    obtain ⟨m',rfl⟩:=hb
    exact ⟨decide (m=m'),by simp,fun d w=>qcE ht d w⟩
  | bool =>
    obtain ⟨m,rfl⟩:=ha
    obtain ⟨m',rfl⟩:=hb
    exact ⟨m == m',by simp,fun d w=>qi8 ht d w⟩
  | string =>
    obtain ⟨m,rfl⟩:=ha
    obtain ⟨m',rfl⟩:=hb
    refine ⟨m.toList == m'.toList,?_,fun d w=>qev ht d w⟩
    rw [beq_iff_eq,ByteArray.toList_eq,ByteArray.toList_eq]
    obtain ⟨⟨l⟩⟩:=m
    obtain ⟨⟨l'⟩⟩:=m'
    simp
theorem Kj {t:TypeId} {d:TypeDesc} (hu:P.underlying t=some d) (w:World):(isAgg t).run P w=.ok (XF P t) w:=by
  cases d <;> simp [isAgg,run_underlying hu,XF,hu,Result.andThen]
theorem Ki {n:Nat} {t:TypeId} {ks:List Zc} (hF:Zd P n t ks) (hc:P.cellsOf t=ks.length) (XS:Array Value) (off:Nat) (hl:Za ks ((XS.toList.drop off).take ks.length)) (w:World) :
    (part t XS off).run P w=.ok (Yd P t ((XS.toList.drop off).take ks.length)) w:=by
  have leaf:∀ (k:Zc) (s by_:Nat) (z:Value),ks=[k]→Ty P t k.desc s z by_→(part t XS off).run P w=.ok (Yd P t ((XS.toList.drop off).take ks.length)) w:=fun k s by_ z e ht=>by
    subst e
    have h1:∃ v,(XS.toList.drop off).take 1=[v]:=by
      have hl':Za [k] ((XS.toList.drop off).take 1):=hl
      generalize (XS.toList.drop off).take 1=zs at hl'
      match zs,hl' with
      | [v],_=>exact ⟨v,rfl⟩
    obtain ⟨v,hv⟩:=h1
    have hg:=getElem?_of_chunk hv
    simp only [List.length_cons,List.length_nil,Nat.zero_add,hv,Yd,K1 ht,Bool.false_eq_true,if_false,List.headD_cons]
    simp [part,Kj ht.und,K1 ht,hg,Result.andThen]
  have agg:∀ (d:TypeDesc) (s by_:Nat) (z:Value),Ty P t d s z by_→XF P t=true→(part t XS off).run P w=.ok (Yd P t ((XS.toList.drop off).take ks.length)) w:=fun d s by_ z ht ha=>by
    obtain ⟨i,hi,_⟩:=ht.info
    simp only [Yd,ha,if_true]
    have e:XS.extract off (off+P.cellsOf t)=((XS.toList.drop off).take ks.length).toArray:=by
      rw [← hc]
      apply Array.ext'
      simp
    simp [part,Kj ht.und,ha,run_sizeOf w hi,e,Result.andThen]
  cases n with
  | zero=>obtain ⟨k,s,by_,z,e,ht⟩:=hF; exact leaf k s by_ z e ht
  | succ n =>
    rcases hF with ⟨k,s,by_,z,e,ht⟩ | ⟨s,by_,z,fs,ht,_,_,_⟩ | ⟨m,e,s,by_,z,ls,_,ht,_,_,_⟩
    · exact leaf k s by_ z e ht
    · exact agg _ s by_ z ht (by simp [XF,ht.und])
    · exact agg _ s by_ z ht (by simp [XF,ht.und])
theorem Yk {ks ls:List Zc} {zs:List Value} (h:Za (ks++ls) zs):Za ks (zs.take ks.length)∧Za ls (zs.drop ks.length):=by
  obtain ⟨xs,ys,rfl,h1,h2⟩:=Kt h
  have:=Ks h1
  rw [← this,List.take_left,List.drop_left]
  exact ⟨h1,h2⟩
theorem qe4:∀ (n:Nat) {t:TypeId} {ks:List Zc},Zd P n t ks→∀ {xs ys:List Value},Za ks xs→Za ks ys →
    ∃ r:Bool,(r=true↔xs=ys)∧∀ d w,(Op.equalIn (d+n+1) t (Yd P t xs) (Yd P t ys)).run P w=.ok r w:=by
  intro n
  induction n with
  | zero =>
    intro t ks hf xs ys hx hy
    obtain ⟨k,s,by_,z,rfl,ht⟩:=hf
    exact qeY ht hx hy
  | succ n ih =>
    intro t ks hf xs ys hx hy
    rcases hf with ⟨k,s,by_,z,rfl,ht⟩ | ⟨s,by_,z,fs,ht,hp,hc,h⟩ | ⟨m,e,s,by_,z,ls,rfl,ht,hce,hc,h⟩
    · obtain ⟨r,h1,h2⟩:=qeY ht hx hy
      exact ⟨r,h1,fun d w=>h2 _ w⟩
    · have key:∀ (l:List Field) (off:Nat) (ls:List Zc),XZ P (Zd P n) l off ls→Za ls (xs.drop off)→Za ls (ys.drop off) →
          ∃ r:Bool,(r=true↔xs.drop off=ys.drop off)∧∀ d w,(Op.eqFields (d+n+1) xs.toArray ys.toArray l).run P w=.ok r w:=by
        intro l off ls hl
        induction hl with
        | @nil off =>
          intro h1 h2
          refine ⟨true,?_,fun d w=>by simp [Op.eqFields]⟩
          have e:∀ zs:List Value,Za [] zs→zs=[]:=fun zs h=>by cases zs with
            | nil=>rfl
            | cons _ _=>exact h.elim
          rw [e _ h1,e _ h2]; simp
        | @cons f fs off ks ls hn ho hcf hF hs ih2 =>
          intro h1 h2
          subst ho
          obtain ⟨a1,a2⟩:=Yk h1
          obtain ⟨b1,b2⟩:=Yk h2
          rw [List.drop_drop] at a2 b2
          obtain ⟨r,hr,hrun⟩:=ih hF a1 b1
          obtain ⟨r',hr',hrun'⟩:=ih2 a2 b2
          refine ⟨r && r',?_,fun d w=>?_⟩
          · rw [Bool.and_eq_true,hr,hr']
            constructor
            · rintro ⟨e1,e2⟩
              rw [← List.take_append_drop ks.length (xs.drop f.offset),← List.take_append_drop ks.length (ys.drop f.offset),e1,List.drop_drop,List.drop_drop,e2]
            · intro e
              exact ⟨by rw [e],by rw [← List.drop_drop,← List.drop_drop,e]⟩
          · have p1:=Ki hF hcf xs.toArray f.offset (by simpa using a1) w
            have p2:=Ki hF hcf ys.toArray f.offset (by simpa using b1) w
            simp only [List.toList_toArray] at p1 p2
            simp only [Op.eqFields,if_pos hn,Sem.run_bind,p1,p2,hrun d w,Result.andThen_ok]
            cases r with
            | true=>simpa using hrun' d w
            | false=>simp
      obtain ⟨r,hr,hrun⟩:=key fs.toList 0 ks h (by simpa using hx) (by simpa using hy)
      refine ⟨r,by simpa using hr,fun d w=>?_⟩
      have hfs:P.fieldsOf t=fs:=by simp [Program.fieldsOf,ht.und]
      have ha:XF P t=true:=by simp [XF,ht.und]
      simp only [Yd,ha,if_true]
      rw [run_equalIn_struct w (d+(n+1)) t _ _ (by rw [hfs]; exact ht.und) hp,hfs]
      exact hrun d w
    · have key:∀ (r j:Nat),j+r=m→Za (List.replicate r ls).flatten (xs.drop (j*ls.length))→Za (List.replicate r ls).flatten (ys.drop (j*ls.length)) →
          ∃ q:Bool,(q=true↔xs.drop (j*ls.length)=ys.drop (j*ls.length))∧∀ d w,(Op.eqItems (d+n+1) e ls.length xs.toArray ys.toArray (List.range' j r)).run P w=.ok q w:=by
        intro r
        induction r with
        | zero =>
          intro j hj h1 h2
          refine ⟨true,?_,fun d w=>by simp [Op.eqItems]⟩
          have e:∀ zs:List Value,Za [] zs→zs=[]:=fun zs h=>by cases zs with
            | nil=>rfl
            | cons _ _=>exact h.elim
          simp only [List.replicate_zero,List.flatten_nil] at h1 h2
          rw [e _ h1,e _ h2]; simp
        | succ r ihr =>
          intro j hj h1 h2
          rw [List.replicate_succ,List.flatten_cons] at h1 h2
          obtain ⟨a1,a2⟩:=Yk h1
          obtain ⟨b1,b2⟩:=Yk h2
          have ej:(j+1)*ls.length=j*ls.length+ls.length:=by rw [Nat.add_mul,Nat.one_mul]
          rw [List.drop_drop,← ej] at a2 b2
          obtain ⟨q,hq,hrun⟩:=ih h a1 b1
          obtain ⟨q',hq',hrun'⟩:=ihr (j+1) (by omega) a2 b2
          refine ⟨q && q',?_,fun d w=>?_⟩
          · rw [Bool.and_eq_true,hq,hq']
            constructor
            · rintro ⟨e1,e2⟩
              rw [← List.take_append_drop ls.length (xs.drop (j*ls.length)),← List.take_append_drop ls.length (ys.drop (j*ls.length)),e1,List.drop_drop,List.drop_drop,← ej,e2]
            · intro e
              exact ⟨by rw [e],by rw [ej,← List.drop_drop,← List.drop_drop,e]⟩
          · have p1:=Ki h hce xs.toArray (j*ls.length) (by simpa using a1) w
            have p2:=Ki h hce ys.toArray (j*ls.length) (by simpa using b1) w
            simp only [List.toList_toArray] at p1 p2
            simp only [List.range'_succ,Op.eqItems,Sem.run_bind,p1,p2,hrun d w,Result.andThen_ok]
            cases q with
            | true=>simpa using hrun' d w
            | false=>simp
      obtain ⟨q,hq,hrun⟩:=key m 0 (by omega) (by simpa using hx) (by simpa using hy)
      refine ⟨q,by simpa using hq,fun d w=>?_⟩
      have ha:XF P t=true:=by simp [XF,ht.und]
      simp only [Yd,ha,if_true]
      have hie:∃ i,P.info? e=some i:=by
        have:P.underlying e≠none:=by
          cases n with
          | zero=>obtain ⟨k,s,by_,z,_,ht⟩:=h; rw [ht.und]; simp
          | succ n =>
            rcases h with ⟨k,s,by_,z,_,ht⟩ | ⟨s,by_,z,fs,ht,_,_,_⟩ | ⟨m,e,s,by_,z,ls,_,ht,_,_,_⟩ <;> (rw [ht.und]; simp)
        cases hu:P.underlying e with
        | none=>exact absurd hu this
        | some d=>exact info_of_underlying hu
      obtain ⟨i,hi⟩:=hie
      rw [run_equalIn_array w (d+(n+1)) _ _ ht.und hi,hce,List.range_eq_range']
      exact hrun d w
end
section
variable {P:Program} {n:Nat} {env:Env} {x y:Operand} {t u ty:TypeId} {C:World→Prop}
theorem qmd {α:Type} [DecidableEq α] {f:α→List Value} {m:Nat} {ks:List Zc} {a b:α} (hx:opv env x=some (.agg (f a).toArray)) (hy:opv env y=some (.agg (f b).toArray)) (hF:Zd P m t ks) (ha:XF P t=true) (hl:∀ z,Za ks (f z)) (hinj:∀ z z',f z=f z'→z=z') (hm:P.eqGuardType P.depth t=false) (hd:m≤9999) :
    Ex P n env C (.binOp .eql t x y u) ty (.bool (decide (a=b))):=fun a' w d pos aft g ha' _=>by
  obtain ⟨r,hr,hrun⟩:=qe4 m hF (hl a) (hl b)
  have h1:=hrun (9999-m) w
  rw [show 9999-m+m+1=10000 by omega] at h1
  simp only [Yd,ha,if_true] at h1
  have e:r=decide (a=b):=by
    rw [Bool.eq_iff_iff,hr,decide_eq_true_eq]
    exact ⟨hinj _ _,fun e=>by rw [e]⟩
  subst e
  simp [execOp,ha'.opv hx,ha'.opv hy,run_eqGuard_agg w .eql t x y _ _ hm,run_eql_struct,h1,Result.andThen]
theorem qjL {α:Type} [DecidableEq α] {f:α→List Value} {m:Nat} {ks:List Zc} {a b:α} (hx:opv env x=some (.agg (f a).toArray)) (hy:opv env y=some (.agg (f b).toArray)) (hF:Zd P m t ks) (ha:XF P t=true) (hl:∀ z,Za ks (f z)) (hinj:∀ z z',f z=f z'→z=z') (hm:P.eqGuardType P.depth t=false) (hd:m≤9999) :
    Ex P n env C (.binOp .neq t x y u) ty (.bool (!decide (a=b))):=fun a' w d pos aft g ha' _=>by
  obtain ⟨r,hr,hrun⟩:=qe4 m hF (hl a) (hl b)
  have h1:=hrun (9999-m) w
  rw [show 9999-m+m+1=10000 by omega] at h1
  simp only [Yd,ha,if_true] at h1
  have e:r=decide (a=b):=by
    rw [Bool.eq_iff_iff,hr,decide_eq_true_eq]
    exact ⟨hinj _ _,fun e=>by rw [e]⟩
  subst e
  simp [execOp,ha'.opv hx,ha'.opv hy,run_eqGuard_agg w .neq t x y _ _ hm,run_neq_struct,h1,Result.andThen]
end
end Go.Sl
namespace Go.Sl
open Go.RowKit
section
variable {P:Program} {ops:Array Oper} {C:World→Prop} {Q:Exit→Act→World→Prop}
def Xp (P:Program) (ops:Array Oper) (C:World→Prop) (o:Oper) (v:Value) (a:Act):Prop :=
  Je P ops C o v a∨(Region.wanted o (yielded ops a.tmps)=false∧v=undef)
theorem Xp.pass {o o':Oper} {v:Value} {a a':Act} (h:Xp P ops C o v a) (hs:XK P ops o o' a a'):Xp P ops C o v a' :=
  h.imp (·.pass hs) fun h=>⟨hs.wanted.trans h.1,h.2⟩
theorem Xp.op {i:Nat} {o:Oper} {v:Value} {a:Act} {w:World} {K:Act→World→Prop} (hi:ops[i]?=some o) (hy:Xp P ops C o v a) (hw:C w) (h:K (a.put o.dst v) w):wpOpIn (fen none) 0 P ops Q i K a w:=by
  rcases hy with hy | ⟨hy,rfl⟩
  · exact hy.op hi hw h
  · unfold Go.wpOpIn
    simp only [hi,hy,Bool.false_eq_true,if_false]
    exact ⟨fun _ _=>trivial,h⟩
theorem YU {i:Nat} {oi:Oper} {v:Value} (hi:ops[i]?=some oi) (hsel:∀ (j:Nat) (o:Oper) cs b,ops[j]?=some o→o.op≠.select cs b) (hQ:∀ c a w,Q (.panic c) (a.put oi.dst v) w→Q (.panic c) a w) :
    ∀ (f:Nat) (l:Array Bool) (a:Act) (w:World),
      (∀ j oj,ops[j]?=some oj→j≠i→l.getD j true=false→(∀ e∈oj.after,Region.binds .any e=true→e.on≠i)→oi.apart ops oj=true) →
      i∈Region.ready .any ops l→Xp P ops C oi v a→Jq P ops C Q f (l.setIfInBounds i true) (a.put oi.dst v) w→Jq P ops C Q (f+1) l a w:=by
  intro f
  induction f with
  | zero =>
    intro l a w _ hr hy H
    refine ⟨H.1,fun h=>(by rw [h] at hr; cases hr),fun j hj=>?_⟩
    by_cases hji:j=i
    · subst hji; exact hy.op hi H.1 H
    · have:=ready_mono hj hji
      rw [H.2.1] at this
      cases this
  | succ f ih =>
    intro l a w hfree hr hy H
    refine ⟨H.1,fun h=>(by rw [h] at hr; cases hr),fun j hj=>?_⟩
    by_cases hji:j=i
    · subst hji; exact hy.op hi H.1 H
    · have h1:=H.2.2 j (ready_mono hj hji)
      obtain ⟨hjun,oj,hoj,hall⟩:=mem_ready.1 hj
      have hnot:∀ e∈oj.after,Region.binds .any e=true→e.on≠i:=fun e he hb heq=>by
        have h1:=hall e he hb
        have h0:=(mem_ready.1 hr).1
        rw [heq] at h1
        rcases Nat.lt_or_ge i l.size with h' | h'
        · simp [h'] at h0 h1; rw [h0] at h1; cases h1
        · simp [Array.getElem?_eq_none h'] at h1
      have h2:=JI hoj (hfree j oj hoj hji hjun hnot) (fun cs b=>hsel i oi cs b hi) (fun cs b=>hsel j oj cs b hoj) hQ h1
      have hfree':∀ k ok,ops[k]?=some ok→k≠i→(l.setIfInBounds j true).getD k true=false →
          (∀ e∈ok.after,Region.binds .any e=true→e.on≠i)→oi.apart ops ok=true:=fun k ok hk hki hun hno=>by
        refine hfree k ok hk hki ?_ hno
        by_cases hjk:j=k
        · subst hjk; exact hjun
        · rw [getD_set_ne true hjk] at hun; exact hun
      refine wpOpIn_mono (fun a' w' h3=>ih (l.setIfInBounds j true) a' w' hfree' (ready_mono hr (Ne.symm hji)) (hy.pass h3.1) ?_) h2
      rw [Array.setIfInBounds_comm _ _ hji]
      exact h3.2
end
section
variable {P:Program} {w0:World} {Q:Exit→Act→World→Prop} {n:Nat} {ds:List Deferred} {k:List It} {env env':Env} {H H' Hc:qe} {ops:Array Oper}
theorem QY (i:Nat) {op:Op} {ty:TypeId} {v:Value} {d j dj:Nat} {b:Bool} {pos:String} {aft:Array Edge} {fuel:Nat} {listed l':Array Bool} (hi:ops[i]?=some ⟨some d,op,ty,pos,aft,some (j,b)⟩) (hs:Region.noSelect ops=true) (hf:Region.free .any ops listed i=true) (hr:(Region.ready .any ops listed).contains i=true)
    (hcall:Yv op=true) (hl:listed.setIfInBounds i true=l') (hj:(ops[j]?).bind (·.dst)=some dj) (ht:look env dj=some (.bool b)) (hx:Ex P n env (Sat w0 Hc) op ty v) (hd:Nat.blt d n=true)
    (h:WC P w0 Q n ds k ops Hc fuel l' ((d,v)::env) H):WC P w0 Q n ds k ops Hc (fuel+1) listed env H:=fun a w ha hds hsat=>by
  subst hl
  have hy:=ha.yielded hj ht
  exact YU hi (Region.noSelect_spec hs) (fun _ _ _ hq=>hq.elim) fuel listed a w (Region.free_spec hi hf) (by simpa using hr)
    (.inl ⟨by simp [Region.wanted,hy],fun w hw=>hx a w _ _ _ _ ha hw,fun w _=>QC hcall w _⟩) (h _ w (ha.put (d:=some d) hd) hds hsat)
theorem YW (i:Nat) {op:Op} {ty:TypeId} {d:Option Nat} {j dj:Nat} {b b':Bool} {pos:String} {aft:Array Edge} {fuel:Nat} {listed l':Array Bool} (hi:ops[i]?=some ⟨d,op,ty,pos,aft,some (j,b)⟩) (hs:Region.noSelect ops=true) (hf:Region.free .any ops listed i=true) (hr:(Region.ready .any ops listed).contains i=true)
    (hl:listed.setIfInBounds i true=l') (hj:(ops[j]?).bind (·.dst)=some dj) (ht:look env dj=some (.bool b')) (hb:(b' == b)=false) (hd:dok n d=true)
    (h:WC P w0 Q n ds k ops Hc fuel l' (put d undef env) H):WC P w0 Q n ds k ops Hc (fuel+1) listed env H:=fun a w ha hds hsat=>by
  subst hl
  have hy:=ha.yielded hj ht
  exact YU hi (Region.noSelect_spec hs) (fun _ _ _ hq=>hq.elim) fuel listed a w (Region.free_spec hi hf) (by simpa using hr)
    (.inr ⟨by simp only [Region.wanted,hy]; simpa using hb,rfl⟩) (h _ w (ha.put hd) (by cases d <;> exact hds) hsat)
end
section
variable {P:Program} {w0:World} {Q:Exit→Act→World→Prop} {n:Nat} {ds:List Deferred} {k:List It} {env:Env} {H:qe} {ops:Array Oper}
theorem Qm {d:Option Nat} {op:Op} {t:TypeId} {pos:String} {aft:Array Edge} {j:Nat} {b:Bool} {dj:Nat} {rest:List Oper} (hj:(ops[j]?).bind (·.dst)=some dj) (ht:look env dj=some undef) (hd:dok n d=true)
    (h:WQ P w0 Q n ds k ops rest (put d undef env) H):WQ P w0 Q n ds k ops (⟨d,op,t,pos,aft,some (j,b)⟩::rest) env H:=fun a ha hds=>by
  refine ⟨fun _ _ _ _=>trivial,?_⟩
  have hy:=qbF ha hj ht
  rw [if_neg (by simp [Region.wanted,hy])]
  exact h _ (ha.put hd) (by cases d <;> exact hds)
end
end Go.Sl
namespace Go.Sl
class KM (p:Nat × Blk) (H:qe) (H1:outParam qe):Prop where
  out:Jv p H H1
instance (priority:=1000) KM.here {p:Nat × Blk} {H:qe}:KM p (p::H) H:=⟨.here H⟩
instance (priority:=500) KM.next {p q:Nat × Blk} {H H1:qe} [h:KM p H H1]:KM p (q::H) (q::H1):=⟨.next h.out⟩
instance (priority:=500) KM.app {p:Nat × Blk} {S H H1:qe} [h:KM p H H1]:KM p (S++H) (S++H1):=⟨.app h.out⟩
class YX (S:qe) (H:qe) (H1:outParam qe):Prop where
  out:Z9 S H H1
instance (priority:=1000) YX.here {S H:qe}:YX S (S++H) H:=⟨.here H⟩
instance (priority:=500) YX.next {q:Nat × Blk} {S H H1:qe} [h:YX S H H1]:YX S (q::H) (q::H1):=⟨.next h.out⟩
instance (priority:=500) YX.app {S T H H1:qe} [h:YX S H H1]:YX S (T++H) (T++H1):=⟨.app h.out⟩
class Jw (H H':qe):Prop where
  out:qr H H'
instance (priority:=1000) Jw.refl {H:qe}:Jw H H:=⟨.refl H⟩
instance (priority:=900) Jw.nil {H:qe}:Jw H []:=⟨.nil H⟩
instance (priority:=800) Jw.cons {p:Nat × Blk} {H H1 H':qe} [t:KM p H H1] [h:Jw H1 H']:Jw H (p::H'):=⟨.cons t.out h.out⟩
instance (priority:=800) Jw.app {S H H1 H':qe} [t:YX S H H1] [h:Jw H1 H']:Jw H (S++H'):=⟨.app t.out h.out⟩
instance (priority:=100) Jw.drop {p:Nat × Blk} {H H':qe} [h:Jw H H']:Jw (p::H) H':=⟨.drop h.out⟩
instance (priority:=100) Jw.dropS {S H H':qe} [h:Jw H H']:Jw (S++H) H':=⟨.dropS h.out⟩
theorem ZW {H H':qe} [h:Jw H H']:qr H H':=h.out
class qdT (p:Nat × Blk) (H:qe):Prop where
  out:p∈H
instance (priority:=1000) qdT.here {p:Nat × Blk} {H:qe}:qdT p (p::H):=⟨List.mem_cons_self⟩
instance (priority:=500) qdT.next {p q:Nat × Blk} {H:qe} [h:qdT p H]:qdT p (q::H):=⟨List.mem_cons_of_mem _ h.out⟩
instance (priority:=500) qdT.app {p:Nat × Blk} {S H:qe} [h:qdT p H]:qdT p (S++H):=⟨List.mem_append_right _ h.out⟩
end Go.Sl
namespace Go.Sl
open Go.RowKit
inductive FTr where
  | nil
  | node (k v:Nat) (l r:FTr)
def FTr.get:FTr→Nat→Option Nat
  | .nil,_=>none
  | .node k v l r,x=>bif Nat.beq k x then some v else bif Nat.blt x k then l.get x else r.get x
def FTr.Ok (P:Program):FTr→Prop
  | .nil=>True
  | .node k v l r=>(∃ s ag,Fld P (k/64) (k%64) v s ag∧s≠0)∧FTr.Ok P l∧FTr.Ok P r
theorem FTr.Ok.at {P:Program} {x v:Nat}:∀ {T:FTr},T.Ok P→T.get x=some v→∃ s ag,Fld P (x/64) (x%64) v s ag∧s≠0
  | .nil,_,h=>by cases h
  | .node k v' l r,⟨h1,h2,h3⟩,h=>by
    simp only [FTr.get] at h
    cases hk:Nat.beq k x with
    | true =>
      rw [hk] at h
      obtain rfl:=Nat.eq_of_beq_eq_true hk
      cases h; exact h1
    | false =>
      rw [hk] at h
      cases hb:Nat.blt x k with
      | true=>rw [hb] at h; exact h2.at h
      | false=>rw [hb] at h; exact h3.at h
def pv (T:FTr) (env:Env):Op→Option Value
  | .move x=>opv env x
  | .assign x=>opv env x
  | .extract x i=>match opv env x with
    | some (.tuple vs)=>vs[i]?
    | _=>none
  | .nilCheck x=>match opv env x with
    | some (.pointer (some a))=>some (.pointer (some a))
    | some (.func (.func g) fa ca)=>some (.func (.func g) fa ca)
    | _=>none
  | .pick c x y=>match opv env c with
    | some (.bool true)=>opv env x
    | some (.bool false)=>opv env y
    | _=>none
  | .fieldAddr t x f=>match opv env x with
    | some (.pointer (some ⟨b,i,none⟩))=>bif Nat.blt f 64 then (match T.get (64*t+f) with
      | some off=>some (.pointer (some ⟨b,i+off,none⟩))
      | none=>none) else none
    | _=>none
  | .binOp op _ x y _=>match opv env x,opv env y with
    | some (.int q i),some (.int q' j)=>if q=q' then (match op with
      | .eql=>some (.bool (decide (i=j)))
      | .neq=>some (.bool (decide (i≠j)))
      | .lss=>some (.bool (decide (i<j)))
      | .leq=>some (.bool (decide (i≤j)))
      | .gtr=>some (.bool (decide (j<i)))
      | .geq=>some (.bool (decide (j≤i)))
      | _=>none) else none
    | _,_=>none
  | .unOp .not _ x=>match opv env x with
    | some (.bool b)=>some (.bool (!b))
    | _=>none
  | _=>none
theorem ql8 (t f:Nat) (h:f<64):(64*t+f)/64=t∧(64*t+f)%64=f:=by omega
theorem qeS {P:Program} {T:FTr} (hT:T.Ok P) {n:Nat} {env:Env} {op:Op} {ty:TypeId} {v:Value} (h:pv T env op=some v) {C:World→Prop}:Ex P n env C op ty v:=by
  cases op with
  | move x=>exact ze h
  | assign x=>exact qdO h
  | extract x i =>
    simp only [pv] at h
    split at h
    · rename_i vs hx
      exact qgm hx h
    · cases h
  | nilCheck x =>
    simp only [pv] at h
    split at h
    · rename_i a hx; cases h; exact q8 hx
    · rename_i g fa ca hx; cases h; exact qdN hx
    · cases h
  | pick c x y =>
    simp only [pv] at h
    split at h
    · rename_i hc; exact qX hc h
    · rename_i hc; exact qY hc h
    · cases h
  | fieldAddr t x f =>
    simp only [pv] at h
    split at h
    · rename_i b i hx
      cases hf:Nat.blt f 64 with
      | false=>rw [hf] at h; cases h
      | true =>
        rw [hf] at h
        simp only [cond_true] at h
        split at h
        · rename_i off ho
          cases h
          obtain ⟨s,ag,hF,h0⟩:=hT.at ho
          have hf':f<64:=by simpa [Nat.blt_eq] using hf
          rw [(ql8 t f hf').1,(ql8 t f hf').2] at hF
          exact qQ hx hF h0
        · cases h
    · cases h
  | binOp op t x y u =>
    simp only [pv] at h
    split at h
    · rename_i q i q' j hx hy
      split at h
      · rename_i hq
        subst hq
        cases op <;> first | (cases h; done) | (cases h; first | exact QQ hx hy b_eql | exact QQ hx hy b_neq | exact QQ hx hy b_lss | exact QQ hx hy b_leq | exact QQ hx hy b_gtr | exact QQ hx hy b_geq)
      · cases h
    · cases h
  | unOp o t x =>
    cases o <;> simp only [pv] at h <;> try cases h
    split at h
    · rename_i b hx; cases h; exact X_not hx
    · cases h
  | _=>cases h
theorem qed {T:FTr} {env:Env} {op:Op} {v:Value} (h:pv T env op=some v):∀ c,op≠.defer c:=by
  rintro c rfl; cases h
theorem qbQ {T:FTr} {env:Env} {op:Op} {v:Value} (h:pv T env op=some v):Yv op=true:=by
  cases op <;> first | rfl | (cases h; done)
def st1 (T:FTr) (n:Nat):List It→Env→Option (List It × Env)
  | .ops _ []::k,env=>some (k,env)
  | .ops all (⟨some d,op,_,_,_,none⟩::rest)::k,env=>match pv T env op with
    | some v=>bif Nat.blt d n then some (.ops all rest::k,(d,v)::env) else none
    | none=>none
  | .ops all (⟨d,op,t,p,aft,some (j,b)⟩::rest)::k,env=>match (all.toList[j]?).bind (·.dst) with
    | some dj=>match look env dj with
      | some (.bool b')=>bif b' == b then some (.ops all (⟨d,op,t,p,aft,none⟩::rest)::k,env) else bif dok n d then some (.ops all rest::k,put d undef env) else none
      | _=>none
    | none=>none
  | .code (.seq (.region _ ⟨l⟩ false) y)::k,env=>some (.ops l.toArray l::.code y::k,env)
  | .code (.seq x y)::k,env=>some (.code x::.code y::k,env)
  | .code (.region _ ⟨l⟩ false)::k,env=>some (.ops l.toArray l::k,env)
  | .code .skip::k,env=>some (k,env)
  | .code (.block id c)::k,env=>some (.code c::.blk id::k,env)
  | .blk _::k,env=>some (k,env)
  | .code (.cond c x y)::k,env=>match opv env c with
    | some (.bool true)=>some (.code x::k,env)
    | some (.bool false)=>some (.code y::k,env)
    | _=>none
  | .code (.exit id)::k,env=>match KC id k with
    | some k'=>some (k',env)
    | none=>none
  | _,_=>none
def st (T:FTr) (n:Nat):Nat→List It→Env→Option (List It × Env)
  | 0,k,env=>some (k,env)
  | f+1,k,env=>match st1 T n k env with
    | some (k',env')=>st T n f k' env'
    | none=>none
section
variable {P:Program} {rd:Option Nat} {w0:World} {Q:Exit→Act→World→Prop} {n:Nat} {ds:List Deferred} {k k':List It} {env env':Env} {H:qe} {T:FTr}
theorem W_st1 (hT:T.Ok P) (h:st1 T n k env=some (k',env')) (hW:W P rd w0 Q n ds k' env' H):W P rd w0 Q n ds k env H:=by
  unfold st1 at h
  split at h
  · cases h; exact qs hW
  · rename_i all d op t p aft rest k
    split at h
    · rename_i v hv
      cases hd:Nat.blt d n with
      | false=>rw [hd] at h; cases h
      | true =>
        rw [hd] at h; cases h
        exact W_x (qeS hT hv) (qed hv) hd hW
    · cases h
  · rename_i all d op t p aft j b rest k
    split at h
    · rename_i dj hj
      have hj':(all[j]?).bind (·.dst)=some dj:=by rw [← hj]; simp
      split at h
      · rename_i b' hb
        cases hbb:(b' == b) with
        | true =>
          rw [hbb] at h; cases h
          obtain rfl:b'=b:=by simpa using hbb
          exact Qk hj' hb hW
        | false =>
          rw [hbb] at h
          simp only [cond_false] at h
          cases hd:dok n d with
          | false=>rw [hd] at h; cases h
          | true =>
            rw [hd] at h; cases h
            exact W_gno hj' (by rw [hb]; cases b <;> cases b' <;> first | rfl | cases hbb) hd hW
      · cases h
    · cases h
  · cases h; exact zo hW
  · cases h; exact qav hW
  · cases h; exact Zn hW
  · cases h; exact qjP hW
  · cases h; exact qcP hW
  · cases h; exact qmg hW
  · split at h
    · rename_i hc; cases h; exact qcO hc rfl hW
    · rename_i hc; cases h; exact QM hc rfl hW
    · cases h
  · split at h
    · rename_i k' he; cases h; exact J7 he hW
    · cases h
  · cases h
theorem W_st (hT:T.Ok P) (f:Nat) {k k':List It} {env env':Env} (h:st T n f k env=some (k',env')) (hW:W P rd w0 Q n ds k' env' H):W P rd w0 Q n ds k env H:=by
  induction f generalizing k env with
  | zero=>cases h; exact hW
  | succ f ih =>
    unfold st at h
    split at h
    · rename_i k1 e1 h1
      exact W_st1 hT h1 (ih h)
    · cases h
end
def sq (T:FTr) (n:Nat) (ops:Array Oper):Nat→List Oper→Env→Option (List Oper × Env)
  | 0,l,env=>some (l,env)
  | f+1,⟨some d,op,_,_,_,none⟩::rest,env=>match pv T env op with
    | some v=>bif Nat.blt d n then sq T n ops f rest ((d,v)::env) else none
    | none=>none
  | f+1,⟨d,op,t,p,aft,some (j,b)⟩::rest,env=>match (ops.toList[j]?).bind (·.dst) with
    | some dj=>match look env dj with
      | some (.bool b')=>bif b' == b then sq T n ops f (⟨d,op,t,p,aft,none⟩::rest) env else bif dok n d then sq T n ops f rest (put d undef env) else none
      | _=>none
    | none=>none
  | _+1,_,_=>none
section
variable {P:Program} {w0:World} {Q:Exit→Act→World→Prop} {n:Nat} {ds:List Deferred} {k:List It} {env env':Env} {H Hc:qe} {T:FTr} {ops:Array Oper} {l l':List Oper}
theorem WQ_sq (hT:T.Ok P) (f:Nat) {l l':List Oper} {env env':Env} (h:sq T n ops f l env=some (l',env')) (hW:WQ P w0 Q n ds k ops l' env' H):WQ P w0 Q n ds k ops l env H:=by
  induction f generalizing l env with
  | zero=>cases h; exact hW
  | succ f ih =>
    unfold sq at h
    split at h
    · rename_i he; cases he
    · rename_i f' d op t p aft rest he
      cases he
      split at h
      · rename_i v hv
        cases hd:Nat.blt d n with
        | false=>rw [hd] at h; cases h
        | true =>
          rw [hd] at h
          exact qC (qeS hT hv) hd (ih h)
      · cases h
    · rename_i f' d op t p aft j b rest he
      cases he
      split at h
      · rename_i dj hj
        have hj':(ops[j]?).bind (·.dst)=some dj:=by rw [← hj]; simp
        split at h
        · rename_i b' hb
          cases hbb:(b' == b) with
          | true =>
            rw [hbb] at h
            obtain rfl:b'=b:=by simpa using hbb
            exact qlD hj' hb (ih h)
          | false =>
            rw [hbb] at h
            simp only [cond_false] at h
            cases hd:dok n d with
            | false=>rw [hd] at h; cases h
            | true =>
              rw [hd] at h
              exact qnc hj' hb hbb hd (ih h)
        · cases h
      · cases h
    · cases h
def scO (ops:Array Oper):List Nat→Array Bool→Bool
  | [],_=>true
  | i::is,listed=>Region.free .any ops listed i && (Region.ready .any ops listed).contains i && scO ops is (listed.setIfInBounds i true)
def scL:List Nat→Array Bool→Array Bool
  | [],l=>l
  | i::is,l=>scL is (l.setIfInBounds i true)
def scV (T:FTr) (n:Nat) (ops:Array Oper):List Nat→Env→Option Env
  | [],env=>some env
  | i::is,env=>match ops.toList[i]? with
    | some ⟨some d,op,_,_,_,none⟩=>match pv T env op with
      | some v=>bif Nat.blt d n then scV T n ops is ((d,v)::env) else none
      | none=>none
    | some ⟨some d,op,_,_,_,some (j,b)⟩=>match (ops.toList[j]?).bind (·.dst) with
      | some dj=>match look env dj with
        | some (.bool b')=>bif b' == b then (match pv T env op with
          | some v=>bif Nat.blt d n then scV T n ops is ((d,v)::env) else none
          | none=>none) else none
        | _=>none
      | none=>none
    | _=>none
theorem WC_sc (hT:T.Ok P) (is:List Nat) {listed:Array Bool} {m m':Nat} {env env':Env} (hs:Region.noSelect ops=true) (ho:scO ops is listed=true) (h:scV T n ops is env=some env') (hm:m=m'+is.length)
    (hW:WC P w0 Q n ds k ops Hc m' (scL is listed) env' H):WC P w0 Q n ds k ops Hc m listed env H:=by
  induction is generalizing listed m env with
  | nil=>cases h; cases hm; exact hW
  | cons i is ih =>
    obtain rfl:m=(m'+is.length)+1:=hm
    simp only [scO,Bool.and_eq_true] at ho
    obtain ⟨⟨h1,h2⟩,h3⟩:=ho
    unfold scV at h
    split at h
    · rename_i d op t p aft hi
      split at h
      · rename_i v hv
        cases hd:Nat.blt d n with
        | false=>rw [hd] at h; cases h
        | true =>
          rw [hd] at h
          exact qm i (by rw [← hi]; simp) hs h1 h2 (qbQ hv) rfl (qeS hT hv) hd (ih h3 h rfl hW)
      · cases h
    · rename_i d op t p aft j b hi
      split at h
      · rename_i dj hj
        split at h
        · rename_i b' hb
          cases hbb:(b' == b) with
          | false=>rw [hbb] at h; cases h
          | true =>
            rw [hbb] at h
            obtain rfl:b'=b:=by simpa using hbb
            simp only [cond_true] at h
            split at h
            · rename_i v hv
              cases hd:Nat.blt d n with
              | false=>rw [hd] at h; cases h
              | true =>
                rw [hd] at h
                exact QY i (by rw [← hi]; simp) hs h1 h2 (qbQ hv) rfl (by rw [← hj]; simp) hb (qeS hT hv) hd (ih h3 h rfl hW)
            · cases h
        · cases h
      · cases h
    · cases h
end
class FTI (P:Program) where
  T:FTr
  ok:T.Ok P
section
variable {P:Program} [i:FTI P] {rd:Option Nat} {w0:World} {Q:Exit→Act→World→Prop} {n:Nat} {ds:List Deferred} {k k':List It} {env env':Env} {H Hc:qe} {ops:Array Oper} {l l':List Oper}
theorem za (f:Nat) (h:st i.T n f k env=some (k',env')) (hW:W P rd w0 Q n ds k' env' H):W P rd w0 Q n ds k env H:=W_st i.ok f h hW
theorem zq (f:Nat) (h:sq i.T n ops f l env=some (l',env')) (hW:WQ P w0 Q n ds k ops l' env' H):WQ P w0 Q n ds k ops l env H:=WQ_sq i.ok f h hW
theorem zw (is:List Nat) {listed:Array Bool} {m m':Nat} (h:scV i.T n ops is env=some env') (hm:m=m'+is.length) (hW:WC P w0 Q n ds k ops Hc m' (scL is listed) env' H) (hs:Region.noSelect ops=true:=by decide +kernel) (ho:scO ops is listed=true:=by decide +kernel):WC P w0 Q n ds k ops Hc m listed env H:=WC_sc i.ok is hs ho h hm hW
end
end Go.Sl
namespace Go.Sl
open Go.RowKit
open Go.ChangeMaps (setBlock)
structure Z3 (P:Program) (K:TypeId) {α:Type} [DecidableEq α] (kf:α→Value):Prop where
  check:∀ (b:Bool) (a:α) (w:World),(Instr.checkKey b 10000 K (kf a)).run P w=.ok () w
  same:∃ d,P.underlying K=some d∧∀ a a',Instr.sameNow d (kf a) (kf a')=some (decide (a=a'))
  stays:∀ (a:α) (w:World),(Instr.keyThatStays (kf a) (kf a)).run P w=.ok (kf a) w
theorem qcw {P:Program} {K:TypeId} {q:IntKind} (h:P.underlying K=some (.int q)):Z3 P K (Value.int q) where
  check b a w:=MapKept.run_checkKey (d:=.int q) h (show MapKept.IsKey (.int q) (.int q a) from rfl) b 9999
  same:=⟨_,h,fun a a'=>by simp [Instr.sameNow,Bool.beq_eq_decide_eq]⟩
  stays a w:=by simp [Instr.keyThatStays,Instr.sameBits]
section
variable {α:Type} [DecidableEq α]
abbrev Qn (α:Type):=List (α × Value × Nat)
def Zl (kf:α→Value) (p:α × Value × Nat):MapEntry:=⟨kf p.1,p.2.1,p.2.2⟩
def qS (kf:α→Value) (l:Qn α) (c:Nat):Obj:=.map (l.map (Zl kf)).toArray c
structure QH (l:Qn α) (c:Nat):Prop where
  keys:(l.map (·.1)).Nodup
  born:(l.map (·.2.2)).Nodup
  lt:∀ p∈l,p.2.2<c
def Yc (l:Qn α) (a:α):Option Nat:=l.findIdx? (fun p=>decide (a=p.1))
def Ys (l:Qn α) (a:α):Option Value:=(l.find? (fun p=>decide (a=p.1))).map (·.2.1)
def Jz (l:Qn α) (a:α):Bool:=l.any (fun p=>decide (a=p.1))
def KY (l:Qn α) (c:Nat) (a:α) (v:Value):Qn α:=if Jz l a then l.map (fun p=>if a=p.1 then (p.1,v,p.2.2) else p) else l++[(a,v,c)]
def qbH (l:Qn α) (c:Nat) (a:α):Nat:=if Jz l a then c else c+1
def JL (l:Qn α) (a:α):Qn α:=l.filter (fun p=>decide (a≠p.1))
theorem QH.nil (c:Nat):QH ([]:Qn α) c:=⟨List.nodup_nil,List.nodup_nil,fun _ h=>by cases h⟩
theorem YC {l:Qn α} {a:α}:Jz l a=true↔a∈l.map (·.1):=by
  unfold Jz
  rw [List.any_eq_true,List.mem_map]
  exact ⟨fun ⟨p,hp,h⟩=>⟨p,hp,(of_decide_eq_true h).symm⟩,fun ⟨p,hp,h⟩=>⟨p,hp,decide_eq_true h.symm⟩⟩
theorem QH.put {l:Qn α} {c:Nat} (h:QH l c) (a:α) (v:Value):QH (KY l c a v) (qbH l c a):=by
  unfold KY qbH
  cases hh:Jz l a with
  | true =>
    simp only [if_true]
    have e1:(l.map (fun p=>if a=p.1 then (p.1,v,p.2.2) else p)).map (·.1)=l.map (·.1):=by
      rw [List.map_map]; apply List.map_congr_left; intro p _; simp only [Function.comp]; split <;> rfl
    have e2:(l.map (fun p=>if a=p.1 then (p.1,v,p.2.2) else p)).map (·.2.2)=l.map (·.2.2):=by
      rw [List.map_map]; apply List.map_congr_left; intro p _; simp only [Function.comp]; split <;> rfl
    refine ⟨by rw [e1]; exact h.keys,by rw [e2]; exact h.born,fun p hp=>?_⟩
    obtain ⟨q,hq,rfl⟩:=List.mem_map.1 hp
    have:=h.lt q hq
    split <;> exact this
  | false =>
    simp only [Bool.false_eq_true,if_false]
    have hn:a ∉ l.map (·.1):=fun hm=>by rw [YC.2 hm] at hh; cases hh
    refine ⟨?_,?_,fun p hp=>?_⟩
    · rw [List.map_append]
      refine List.nodup_append.2 ⟨h.keys,by simp,fun x hx y hy=>?_⟩
      have hy':y=a:=by simpa using hy
      subst hy'
      exact fun e=>hn (e ▸ hx)
    · rw [List.map_append]
      refine List.nodup_append.2 ⟨h.born,by simp,fun x hx y hy=>?_⟩
      have hy':y=c:=by simpa using hy
      subst hy'
      obtain ⟨p,hp,rfl⟩:=List.mem_map.1 hx
      have:=h.lt p hp
      exact fun e=>by omega
    · rcases List.mem_append.1 hp with hp | hp
      · have:=h.lt p hp; omega
      · obtain rfl:p=(a,v,c):=by simpa using hp
        exact Nat.lt_succ_self c
theorem QH.del {l:Qn α} {c:Nat} (h:QH l c) (a:α):QH (JL l a) c :=
  ⟨h.keys.sublist ((List.filter_sublist).map _),h.born.sublist ((List.filter_sublist).map _),fun p hp=>h.lt p (List.mem_filter.1 hp).1⟩
theorem KA {d:TypeDesc} {kf:α→Value} (hs:∀ a a',Instr.sameNow d (kf a) (kf a')=some (decide (a=a'))) (a:α):∀ (l:Qn α) (i:Nat),
    Instr.findNow d (kf a) (l.map (Zl kf)) i=some ((Yc l a).map fun j=>(i+j,((l[j]?).map (·.2.1)).getD undef))
  | [],i=>by simp [Instr.findNow,Yc]
  | p::l,i=>by
    simp only [List.map_cons,Instr.findNow,Zl,hs]
    by_cases h:a=p.1
    · simp [h,Yc,List.findIdx?_cons]
    · simp only [decide_eq_false h]
      rw [KA hs a l (i+1)]
      simp only [Yc,List.findIdx?_cons,decide_eq_false h,Bool.false_eq_true,if_false,Option.map_map]
      congr 2
      funext j
      simp only [Function.comp,List.getElem?_cons_succ]
      congr 1
      omega
theorem qbc {l:Qn α} {a:α} {j:Nat} (h:Yc l a=some j):∃ p,l[j]?=some p∧a=p.1∧l.find? (fun p=>decide (a=p.1))=some p:=by
  unfold Yc at h
  obtain ⟨hj,h1,h2⟩:=List.findIdx?_eq_some_iff_getElem.1 h
  refine ⟨l[j],List.getElem?_eq_getElem hj,of_decide_eq_true h1,?_⟩
  rw [List.find?_eq_some_iff_getElem]
  exact ⟨h1,j,hj,rfl,fun i hi=>by simpa using h2 i hi⟩
theorem qbd {l:Qn α} {a:α} (h:Yc l a=none):Jz l a=false∧l.find? (fun p=>decide (a=p.1))=none:=by
  unfold Yc at h
  rw [List.findIdx?_eq_none_iff] at h
  refine ⟨?_,List.find?_eq_none.2 fun p hp=>by simpa using h p hp⟩
  unfold Jz
  rw [List.any_eq_false]
  intro p hp
  simpa using h p hp
theorem qe1 {l:Qn α} {a:α} {j:Nat} (h:Yc l a=some j):Jz l a=true:=by
  obtain ⟨p,hp,e,_⟩:=qbc h
  exact YC.2 (e ▸ List.mem_map.2 ⟨p,List.mem_of_getElem? hp,rfl⟩)
theorem qan {kf:α→Value} {v:Value} (a:α):∀ {l:Qn α} {j:Nat},(l.map (·.1)).Nodup→Yc l a=some j →
    (l.map (Zl kf)).modify j (fun e=>{ e with key:=kf a,val:=v })=(l.map (fun p=>if a=p.1 then (p.1,v,p.2.2) else p)).map (Zl kf)
  | [],j,_,h=>by simp [Yc] at h
  | p::l,j,hn,h=>by
    have hn':=List.nodup_cons.1 hn
    by_cases hp:a=p.1
    · have hj:j=0:=by simp [Yc,List.findIdx?_cons,hp] at h; exact h.symm
      subst hj
      have ht:l.map (fun p=>if a=p.1 then (p.1,v,p.2.2) else p)=l:=by
        conv=>rhs; rw [← List.map_id l]
        apply List.map_congr_left
        intro q hq
        have hne:¬ a=q.1:=fun e=>hn'.1 (List.mem_map.2 ⟨q,hq,e.symm.trans hp⟩)
        simp [hne]
      simp only [List.map_cons,if_pos hp,ht,List.modify_zero_cons]
      rw [show Zl kf (p.1,v,p.2.2)={ Zl kf p with key:=kf a,val:=v } by simp [Zl,hp]]
    · have h':∃ i,Yc l a=some i∧j=i+1:=by
        unfold Yc at h ⊢
        rw [List.findIdx?_cons,decide_eq_false hp] at h
        simp only [Bool.false_eq_true,if_false,Option.map_eq_some_iff] at h
        obtain ⟨i,hi,e⟩:=h
        exact ⟨i,hi,e.symm⟩
      obtain ⟨i,hi,rfl⟩:=h'
      simp only [List.map_cons,List.modify_succ_cons,if_neg hp]
      rw [qan a hn'.2 hi]
theorem qbm {a:α}:∀ {l:Qn α} {j:Nat},(l.map (·.1)).Nodup→Yc l a=some j→l.eraseIdx j=JL l a
  | [],j,_,h=>by simp [Yc] at h
  | p::l,j,hn,h=>by
    have hn':=List.nodup_cons.1 hn
    by_cases hp:a=p.1
    · have hj:j=0:=by simp [Yc,List.findIdx?_cons,hp] at h; exact h.symm
      subst hj
      have ht:JL l a=l:=by
        unfold JL
        rw [List.filter_eq_self]
        intro q hq
        exact decide_eq_true fun e=>hn'.1 (List.mem_map.2 ⟨q,hq,e.symm.trans hp⟩)
      rw [List.eraseIdx_cons_zero]
      show l=(p::l).filter _
      rw [List.filter_cons_of_neg (by simp [hp])]
      exact ht.symm
    · have h':∃ i,Yc l a=some i∧j=i+1:=by
        unfold Yc at h ⊢
        rw [List.findIdx?_cons,decide_eq_false hp] at h
        simp only [Bool.false_eq_true,if_false,Option.map_eq_some_iff] at h
        obtain ⟨i,hi,e⟩:=h
        exact ⟨i,hi,e.symm⟩
      obtain ⟨i,hi,rfl⟩:=h'
      rw [List.eraseIdx_cons_succ,qbm hn'.2 hi]
      show _=(p::l).filter _
      rw [List.filter_cons_of_pos (by simpa using hp)]
      rfl
theorem qjd {l:Qn α} {a:α} (h:Jz l a=false):JL l a=l:=by
  unfold JL
  rw [List.filter_eq_self]
  intro q hq
  unfold Jz at h
  rw [List.any_eq_false] at h
  simpa using h q hq
end
section
variable {P:Program} {rd:Option Nat} {w0:World} {Q:Exit→Act→World→Prop} {n:Nat} {ds:List Deferred} {k:List It} {env env':Env} {H H':qe} {all:Array Oper} {rest:List Oper}
variable {d:Nat} {x y z c:Operand} {t u ty K E:TypeId} {pos:String} {aft:Array Edge} {v:Value} {s by_:Nat} {tz:Value}
variable {α:Type} [DecidableEq α] {kf:α→Value} {l:Qn α} {cl b:Nat} {a:α}
theorem qaX {w0 w:World} {r:Nat} {o:Obj} (h:w0.heap.size≤r):Below w0.heap.size w (setBlock w r o) :=
  ⟨rfl,rfl,rfl,by simp [setBlock],fun k hk=>by simp only [setBlock]; rw [Array.getElem?_setIfInBounds_ne (by omega)]⟩
theorem Sat.setO {w:World} {r:Nat} {o o':Obj} (hs:Sat w0 H w) (hu:Upd r (.obj o) (.obj o') H H'):Sat w0 H' (setBlock w r o'):=by
  obtain ⟨hb,hr⟩:=hs.own _ hu.mem
  have hr':w.heap[r]?=some o:=hr
  exact hs.upd hu (qaX hb) (fun j hj _=>by simp only [setBlock]; rw [Array.getElem?_setIfInBounds_ne (Ne.symm hj)]) (by
    show (setBlock w r o').heap[r]?=some o'
    have hlt:r<w.heap.size:=(Array.getElem?_eq_some_iff.1 hr').1
    simp [setBlock,hlt])
theorem Xz (hd:Nat.blt d n=true) (h:∀ b:Nat,W P rd w0 Q n ds (.ops all rest::k) ((d,.map (some b))::env) ((b,.obj (qS kf [] 0))::H)) :
    W P rd w0 Q n ds (.ops all (⟨some d,.makeMap t none,ty,pos,aft,none⟩::rest)::k) env H :=
  Js rfl nofun hd fun a w ha hs=>⟨.map (some w.heap.size),(w.heap.size,.obj (qS kf [] 0))::H,w.alloc (.map #[] 0),.inl (by simp [execOp,run_makeMap,Result.andThen]),hs.alloc _ (At.alloc_obj w _),h w.heap.size⟩
theorem qd8 (hk:Z3 P K kf) (ht:Ty P t (.map K E) s tz by_) {zE:Value} (hz:∀ w,(zeroValue E).run P w=.ok zE w) {w:World} (hb:w.heap[b]?=some (qS kf l cl)) (ok:Bool) :
    (Instr.lookup t (.map (some b)) (kf a) ok).run P w=.ok (if ok then .tuple #[(Ys l a).getD zE,.bool (Jz l a)] else (Ys l a).getD zE) w:=by
  obtain ⟨dK,hu,hsame⟩:=hk.same
  have hf:=MapKept.run_findKey (P:=P) (w:=w) hu (KA hsame a l 0)
  simp only [Instr.lookup,Sem.run_bind,ht.run,Result.andThen,MapKept.run_getObj_map hb,Sem.run_pure,hk.check,hf]
  cases hi:Yc l a with
  | none =>
    obtain ⟨h1,h2⟩:=qbd hi
    simp only [Option.map_none,Sem.run_bind,hz,Result.andThen,Sem.run_pure,Ys,h2,Option.getD_none,h1]
  | some j =>
    obtain ⟨p,hp,e,hfd⟩:=qbc hi
    simp only [Option.map_some,hp,Option.getD_some,Sem.run_pure,Result.andThen,Ys,hfd,qe1 hi]
    cases ok <;> rfl
theorem Xn {ok:Bool} (hx:opv env x=some (.map (some b))) (hy:opv env y=some (kf a)) (hk:Z3 P K kf) (ht:Ty P t (.map K E) s tz by_) {zE:Value} (hz:∀ w,(zeroValue E).run P w=.ok zE w) (hm:(b,Blk.obj (qS kf l cl))∈H) :
    Ex P n env (Sat w0 H) (.lookup t x y ok) ty (if ok then .tuple #[(Ys l a).getD zE,.bool (Jz l a)] else (Ys l a).getD zE):=fun a' w d pos aft g ha hs=>by
  have hb:w.heap[b]?=some (qS kf l cl):=(hs.own _ hm).2
  simp [execOp,ha.opv hx,ha.opv hy,qd8 hk ht hz hb,Result.andThen]
theorem qbC {ok:Bool} (hx:opv env x=some (.map (some b))) (hy:opv env y=some (kf a)) (hk:Z3 P K kf) (ht:Ty P t (.map K E) s tz by_) {zE:Value} (hz:∀ w,(zeroValue E).run P w=.ok zE w) (hm:(b,Blk.obj (qS kf l cl))∈H) (hd:Nat.blt d n=true)
    (h:W P rd w0 Q n ds (.ops all rest::k) ((d,if ok then .tuple #[(Ys l a).getD zE,.bool (Jz l a)] else (Ys l a).getD zE)::env) H) :
    W P rd w0 Q n ds (.ops all (⟨some d,.lookup t x y ok,ty,pos,aft,none⟩::rest)::k) env H :=
  Qd rfl nofun hd (fun a' w ha hs=>Xn hx hy hk ht hz hm a' w (some d) pos aft none ha hs) h
theorem qkl (hk:Z3 P K kf) (ht:Ty P t (.map K E) s tz by_) (hok:QH l cl) {w:World} (hb:w.heap[b]?=some (qS kf l cl)) :
    (Instr.mapUpdate t (.map (some b)) (kf a) v).run P w=.ok () (setBlock w b (qS kf (KY l cl a v) (qbH l cl a))):=by
  obtain ⟨dK,hu,hsame⟩:=hk.same
  have hf:=MapKept.run_findKey (P:=P) (w:=w) hu (KA hsame a l 0)
  simp only [Instr.mapUpdate,Sem.run_bind,ht.run,Result.andThen,MapKept.run_getObj_map hb,Sem.run_pure,hk.check,hf]
  cases hi:Yc l a with
  | none =>
    obtain ⟨h1,h2⟩:=qbd hi
    simp only [Option.map_none,MapKept.run_setObj_map _ hb,setBlock,qS,KY,qbH,h1,Bool.false_eq_true,if_false]
    congr 2
    simp [Zl]
  | some j =>
    obtain ⟨p,hp,e,hfd⟩:=qbc hi
    have hg:(((l.map (Zl kf)).toArray[0+j]?).map (·.key)).getD (kf a)=kf a:=by
      simp [hp,Zl,e]
    simp only [Option.map_some,Sem.run_bind,hg,hk.stays,Result.andThen,MapKept.run_setObj_map _ hb,setBlock,qS,KY,qbH,qe1 hi,if_true]
    congr 2
    have:=qan (kf:=kf) (v:=v) a hok.keys hi
    rw [← this]
    have e2:(l.map (Zl kf)).toArray.modify (0+j) (fun e=>{ e with key:=kf a,val:=v })=((l.map (Zl kf)).modify j (fun e=>{ e with key:=kf a,val:=v })).toArray:=by
      apply Array.ext'
      simp
    rw [e2]
theorem Xo (hx:opv env x=some (.map (some b))) (hy:opv env y=some (kf a)) (hv:opv env z=some v) (hk:Z3 P K kf) (ht:Ty P t (.map K E) s tz by_) (hok:QH l cl) (hu:Upd b (.obj (qS kf l cl)) (.obj (qS kf (KY l cl a v) (qbH l cl a))) H H')
    (h:W P rd w0 Q n ds (.ops all rest::k) env H'):W P rd w0 Q n ds (.ops all (⟨none,.mapUpdate t x y z,ty,pos,aft,none⟩::rest)::k) env H :=
  Js rfl nofun rfl fun a' w ha hs=>by
    have hb:w.heap[b]?=some (qS kf l cl):=(hs.own _ hu.mem).2
    refine ⟨undef,H',_,.inr ⟨?_,rfl⟩,hs.setO hu,h⟩
    simp [execOp,ha.opv hx,ha.opv hy,ha.opv hv,qkl hk ht hok hb,Result.andThen]
theorem qkm (hk:Z3 P K kf) (ht:Ty P t (.map K E) s tz by_) (hok:QH l cl) {w:World} (hb:w.heap[b]?=some (qS kf l cl)) :
    (Builtin.delete_ #[t,u] ty #[.map (some b),kf a]).run P w=.ok (.tuple #[]) (setBlock w b (qS kf (JL l a) cl)):=by
  obtain ⟨dK,hu,hsame⟩:=hk.same
  have hf:=MapKept.run_findKey (P:=P) (w:=w) hu (KA hsame a l 0)
  have h0:(#[t,u]:Array TypeId)[0]?=some t:=rfl
  have h1:(#[Value.map (some b),kf a]:Array Value)[0]?=some (.map (some b)):=rfl
  have h2:(#[Value.map (some b),kf a]:Array Value)[1]?=some (kf a):=rfl
  simp only [Builtin.delete_,h0,h1,h2,Sem.run_bind,ht.run,Result.andThen,MapKept.run_getObj_map hb,hk.check,hf]
  cases hi:Yc l a with
  | none =>
    obtain ⟨h1,h2⟩:=qbd hi
    simp [MapKept.run_setObj_map _ hb,setBlock,qS,qjd h1,Result.andThen]
  | some j =>
    rw [← qbm hok.keys hi]
    have e:((l.map (Zl kf)).toArray.eraseIdxIfInBounds (0+j))=((l.eraseIdx j).map (Zl kf)).toArray:=by
      apply Array.ext'
      rw [Nat.zero_add,Array.toList_eraseIdxIfInBounds]
      simp [Go.ChangeMaps.map_eraseIdx]
    simp [e,MapKept.run_setObj_map _ hb,setBlock,qS,Result.andThen,Go.ChangeMaps.map_eraseIdx]
theorem Jt {od:Option Nat} (hx:opv env x=some (.map (some b))) (hy:opv env y=some (kf a)) (hk:Z3 P K kf) (ht:Ty P t (.map K E) s tz by_) (hok:QH l cl) (hu:Upd b (.obj (qS kf l cl)) (.obj (qS kf (JL l a) cl)) H H') (hd:dok n od=true)
    (h:W P rd w0 Q n ds (.ops all rest::k) (put od (.tuple #[]) env) H'):W P rd w0 Q n ds (.ops all (⟨od,.call ⟨.builtin .delete,#[x,y],#[t,u]⟩,ty,pos,aft,none⟩::rest)::k) env H :=
  Js rfl nofun hd fun a' w ha hs=>by
    have hb:w.heap[b]?=some (qS kf l cl):=(hs.own _ hu.mem).2
    refine ⟨.tuple #[],H',_,.inl ?_,hs.setO hu,h⟩
    simp [execOp,resolve,invoke,builtin,ha.opv hx,ha.opv hy,qkm hk ht hok hb,Result.andThen]
theorem qjN (hx:opv env x=some (.map (some b))) (ht:Ty P t (.map K E) s tz by_) (hm:(b,Blk.obj (qS kf l cl))∈H) :
    Ex P n env (Sat w0 H) (.call ⟨.builtin .len,#[x],#[t]⟩) ty (.int .i64 (l.length:Int)):=fun a' w d pos aft g ha hs=>by
  have hb:w.heap[b]?=some (.map (l.map (Zl kf)).toArray cl):=(hs.own _ hm).2
  simp [execOp,resolve,invoke,builtin,ha.opv hx,Builtin.len_,ht.run,MapKept.run_getObj_map hb,goInt,Result.andThen]
def Jl (b since:Nat) (sl:List Nat) (c0:Nat):Obj:=.mapIter (some b) since sl.toArray c0
theorem qfg (hx:opv env x=some (.map (some b))) (ht:Ty P t (.map K E) s tz by_) (hm:(b,Blk.obj (qS kf l cl))∈H) (hd:Nat.blt d n=true)
    (h:∀ r:Nat,W P rd w0 Q n ds (.ops all rest::k) ((d,.pointer (some ⟨r,0,none⟩))::env) ((r,.obj (Jl b cl [] cl))::H)) :
    W P rd w0 Q n ds (.ops all (⟨some d,.range t x,ty,pos,aft,none⟩::rest)::k) env H :=
  Js rfl nofun hd fun a' w ha hs=>by
    have hb:w.heap[b]?=some (.map (l.map (Zl kf)).toArray cl):=(hs.own _ hm).2
    refine ⟨.pointer (some ⟨w.heap.size,0,none⟩),(w.heap.size,.obj (Jl b cl [] cl))::H,w.alloc (.mapIter (some b) cl #[] cl),.inl ?_,hs.alloc _ (At.alloc_obj w _),h w.heap.size⟩
    simp [execOp,ha.opv hx,run_range_map w t K E b _ cl ht.und hb,Result.andThen]
theorem qjQ {r since c0:Nat} {sl:List Nat} {HN:(α × Value × Nat)→qe} (hx:opv env x=some (.pointer (some ⟨r,0,none⟩))) (hm:(b,Blk.obj (qS kf l cl))∈H) (hr:(r,Blk.obj (Jl b since sl c0))∈H) (hold:∀ p∈l,p.2.2<since) (hsc:since≤c0)
    (hu:∀ p,Upd r (.obj (Jl b since sl c0)) (.obj (Jl b since (sl++[p.2.2]) cl)) H (HN p)) (hd:Nat.blt d n=true)
    (h0:(∀ p∈l,p.2.2∈sl)→W P rd w0 Q n ds (.ops all rest::k) ((d,.tuple #[.bool false])::env) H)
    (h1:∀ p∈l,p.2.2 ∉ sl→W P rd w0 Q n ds (.ops all rest::k) ((d,.tuple #[.bool true,kf p.1,p.2.1])::env) (HN p)) :
    W P rd w0 Q n ds (.ops all (⟨some d,.next x false,ty,pos,aft,none⟩::rest)::k) env H :=
  Js rfl nofun hd fun a' w ha hs=>by
    have hb:w.heap[b]?=some (.map (l.map (Zl kf)).toArray cl):=(hs.own _ hm).2
    have hri:w.heap[r]?=some (.mapIter (some b) since sl.toArray c0):=(hs.own _ hr).2
    have hold':∀ e∈(l.map (Zl kf)).toArray.toList,e.born<since:=fun e he=>by
      obtain ⟨p,hp,rfl⟩:∃ p,p∈l∧Zl kf p=e:=List.mem_map.1 he
      exact hold p hp
    rcases run_next_at (P:=P) w ty r b since c0 sl.toArray _ cl hri hb hold' hsc with ⟨hz,hrun⟩ | ⟨e,he,w1,hw1,hrun⟩
    · refine ⟨.tuple #[.bool false],H,w,.inl ?_,hs,h0 fun p hp=>?_⟩
      · simp [execOp,ha.opv hx,hrun,Result.andThen]
      · have hnil:leftOf (l.map (Zl kf)).toArray sl.toArray=#[]:=Array.eq_empty_of_size_eq_zero hz
        unfold leftOf at hnil
        rw [Array.filter_eq_empty_iff] at hnil
        have:=hnil (Zl kf p) (by simpa using List.mem_map.2 ⟨p,hp,rfl⟩)
        simpa [Zl] using this
    · obtain ⟨hmem,hnc⟩:=mem_left he
      obtain ⟨p,hp,rfl⟩:∃ p,p∈l∧Zl kf p=e:=List.mem_map.1 hmem
      refine ⟨.tuple #[.bool true,kf p.1,p.2.1],HN p,setBlock w1 r (.mapIter (some b) since (sl.toArray.push (Zl kf p).born) cl),.inl ?_,?_,h1 p hp (by simpa [Zl] using hnc)⟩
      · have:(Instr.next (.pointer (some ⟨r,0,none⟩)) false ty).run P w=.ok (.tuple #[.bool true,kf p.1,p.2.1]) (setBlock w1 r (.mapIter (some b) since (sl.toArray.push (Zl kf p).born) cl)):=hrun
        simp [execOp,ha.opv hx,this,Result.andThen]
      · have hs1:Sat w0 H w1:=by
          rcases hw1 with rfl | rfl
          · exact hs
          · exact hs.drew
        have e2:(.mapIter (some b) since (sl.toArray.push (Zl kf p).born) cl:Obj)=Jl b since (sl++[p.2.2]) cl:=by simp [Jl,Zl]
        rw [e2]
        exact hs1.setO (hu p)
theorem qlu {r since:Nat} {sl:List Nat} {p:α × Value × Nat} (hx:opv env x=some (.pointer (some ⟨r,0,none⟩))) (hm:(b,Blk.obj (qS kf l cl))∈H) (hr:(r,Blk.obj (Jl b since (sl++[p.2.2]) cl))∈H) (hp:p∈l) (hok:QH l cl) :
    Ex P n env (Sat w0 H) (.entry x) ty (.tuple #[kf p.1,p.2.1]):=fun a' w d pos aft g ha hs=>by
  have hb:w.heap[b]?=some (.map (l.map (Zl kf)).toArray cl):=(hs.own _ hm).2
  have hri:w.heap[r]?=some (.mapIter (some b) since (sl.toArray.push (Zl kf p).born) cl):=by
    have:w.heap[r]?=some (.mapIter (some b) since (sl++[p.2.2]).toArray cl):=(hs.own _ hr).2
    rw [this]; simp [Zl]
  have:=run_entry_at (P:=P) w r b since sl.toArray _ cl (Zl kf p) hri hb (List.mem_map.2 ⟨p,hp,rfl⟩) (by
    show (((l.map (Zl kf)).map (·.born))).Nodup
    rw [List.map_map]
    exact hok.born)
  simp [execOp,ha.opv hx,this,Result.andThen,Zl]
theorem qfi {r since:Nat} {sl:List Nat} {p:α × Value × Nat} (hx:opv env x=some (.pointer (some ⟨r,0,none⟩))) (hm:(b,Blk.obj (qS kf l cl))∈H) (hr:(r,Blk.obj (Jl b since (sl++[p.2.2]) cl))∈H) (hp:p∈l) (hok:QH l cl) (hd:Nat.blt d n=true)
    (h:W P rd w0 Q n ds (.ops all rest::k) ((d,.tuple #[kf p.1,p.2.1])::env) H):W P rd w0 Q n ds (.ops all (⟨some d,.entry x,ty,pos,aft,none⟩::rest)::k) env H :=
  Qd rfl nofun hd (fun a' w ha hs=>qlu hx hm hr hp hok a' w (some d) pos aft none ha hs) h
theorem qam:∀ {a b:List Nat},a.Nodup→(∀ x∈a,x∈b)→a.length≤b.length
  | [],_,_,_=>Nat.zero_le _
  | x::a,b,hn,h=>by
    have hn':=List.nodup_cons.1 hn
    have hx:=h x List.mem_cons_self
    have:=qam (a:=a) (b:=b.erase x) hn'.2 (fun y hy=>(List.mem_erase_of_ne (fun e:y=x=>hn'.1 (e ▸ hy))).2 (h y (List.mem_cons_of_mem _ hy)))
    rw [List.length_erase_of_mem hx] at this
    have:0<b.length:=List.length_pos_of_mem hx
    simp only [List.length_cons]; omega
theorem Y0 {vs:Qn α} (hn:(vs.map (·.2.2)).Nodup):vs.Nodup:=List.Pairwise.of_map _ (fun a b h e=>h (congrArg (·.2.2) e)) hn
theorem qfq {l:Qn α} (h:(l.map (·.2.2)).Nodup) {p q:α × Value × Nat} (hp:p∈l) (hq:q∈l) (e:p.2.2=q.2.2):p=q:=by
  obtain ⟨i,hi,rfl⟩:=List.getElem_of_mem hp
  obtain ⟨j,hj,rfl⟩:=List.getElem_of_mem hq
  have hpw:=List.pairwise_iff_getElem.1 h
  rcases Nat.lt_trichotomy i j with hij | rfl | hij
  · exact absurd (by rw [List.getElem_map,List.getElem_map]; exact e) (hpw i j (by simpa using hi) (by simpa using hj) hij)
  · rfl
  · exact absurd (by rw [List.getElem_map,List.getElem_map]; exact e.symm) (hpw j i (by simpa using hj) (by simpa using hi) hij)
theorem qaR {vs:Qn α} (hok:QH l cl) (hn:(vs.map (·.2.2)).Nodup) (hin:∀ p∈vs,p∈l) (hall:∀ p∈l,p.2.2∈vs.map (·.2.2)):vs.Perm l:=by
  refine (List.perm_ext_iff_of_nodup (Y0 hn) (Y0 hok.born)).2 fun p=>⟨hin p,fun hp=>?_⟩
  obtain ⟨q,hq,e⟩:=List.mem_map.1 (hall p hp)
  rw [← qfq hok.born (hin q hq) hp e]; exact hq
theorem X8 {vs:Qn α} {p:α × Value × Nat} (hn:(vs.map (·.2.2)).Nodup) (hin:∀ p∈vs,p∈l) (hp:p∈l) (hnp:p.2.2 ∉ vs.map (·.2.2)):vs.length<l.length:=by
  have:=qam (a:=p.2.2::vs.map (·.2.2)) (b:=l.map (·.2.2)) (List.nodup_cons.2 ⟨hnp,hn⟩) (fun x hx=>by
    rcases List.mem_cons.1 hx with rfl | hx
    · exact List.mem_map.2 ⟨p,hp,rfl⟩
    · obtain ⟨q,hq,rfl⟩:=List.mem_map.1 hx
      exact List.mem_map.2 ⟨q,hin q hq,rfl⟩)
  simp only [List.length_cons,List.length_map] at this
  omega
end
end Go.Sl
namespace Go.Sl
open Go
theorem YE {α:Type} {f:α→List Value} {s:Nat} (hf:∀ x,(f x).length=s):∀ {l:List α} {i:Nat} (x:α),i<l.length→zf (l.flatMap f) (i*s) (f x)=(l.set i x).flatMap f
  | [],_,_,h=>absurd h (Nat.not_lt_zero _)
  | y::l,0,x,_=>by
    unfold zf
    rw [Nat.zero_mul,List.take_zero,List.nil_append,Nat.zero_add,hf x,List.flatMap_cons,← hf y,List.drop_left]
    rfl
  | y::l,i+1,x,h=>by
    have ih:=YE hf (l:=l) (i:=i) x (by simpa using h)
    unfold zf at ih ⊢
    have e:(i+1)*s=(f y).length+i*s:=by rw [hf y,Nat.succ_mul,Nat.add_comm]
    rw [List.flatMap_cons,List.set_cons_succ,List.flatMap_cons,← ih,e,List.take_length_add_append,Nat.add_assoc,List.drop_length_add_append]
    simp only [List.append_assoc]
end Go.Sl
namespace Go.Sl
open Go.RowKit
theorem qr.ofPerm {H H':qe} (h:H.Perm H'):qr H H':=by
  induction h with
  | nil=>exact .refl _
  | cons x _ ih=>exact .cons (.here _) ih
  | swap x y l=>exact .cons (.next (.here _)) (.refl _)
  | trans _ _ ih1 ih2=>exact .trans ih1 ih2
theorem Ym {α:Type}:∀ {XS:List (List α)} {k:Nat} {B:List α},XS[k]?=some B→XS.flatten.Perm (B++(XS.set k []).flatten)
  | X::XS,0,B,h=>by
    obtain rfl:X=B:=by simpa using h
    simp
  | X::XS,k+1,B,h=>by
    have ih:=Ym (XS:=XS) (k:=k) (B:=B) (by simpa using h)
    simp only [List.flatten_cons,List.set_cons_succ]
    exact (ih.append_left X).trans (by rw [← List.append_assoc,← List.append_assoc]; exact List.perm_append_comm.append_right _)
theorem qet {α:Type} {XS:List (List α)} {k:Nat} {B:List α} (h:k<XS.length):(B++(XS.set k []).flatten).Perm (XS.set k B).flatten:=by
  have h1:=Ym (XS:=XS.set k B) (k:=k) (B:=B) (by simp [h])
  rw [List.set_set] at h1
  exact h1.symm
theorem Qs {XS:List qe} {k:Nat} {B H:qe} (h:XS[k]?=some B):qr (XS.flatten++H) (B++((XS.set k []).flatten++H)) :=
  qr.ofPerm (((Ym h).append_right H).trans (by rw [List.append_assoc]))
theorem Zb {XS:List qe} {k:Nat} {B H:qe} (h:k<XS.length):qr (B++((XS.set k []).flatten++H)) ((XS.set k B).flatten++H):=by
  have h1:=(qet (B:=B) h).append_right H
  rw [List.append_assoc] at h1
  exact qr.ofPerm h1
theorem YN {XS:List qe} {k:Nat} {B:qe} {p:Nat × Blk} (h:XS[k]?=some B) (hp:p∈B):p∈XS.flatten :=
  List.mem_flatten.2 ⟨B,List.mem_of_getElem? h,hp⟩
theorem zz.toHolds {w0:World} {e:TypeId} {s:Nat} {ad:Option Addr} {n cap:Nat} {xs:List Value} {HB H:qe} (h:zz e s (.slice ad n cap) n xs HB) (hs:∀ p∈HB,p∈H):Holds w0 H ad xs:=by
  obtain ⟨ad',cap',e',_,_,hh⟩:=Holds.of_own (w0:=w0) (H:=H) h hs
  cases e'
  exact hh
end Go.Sl
namespace Go.Sl
open Go.RowKit
section
variable {P:Program} {ops:Array Oper} {C C2:World→Prop} {Q:Exit→Act→World→Prop} {s:Nat}
def YT (P:Program) (ops:Array Oper) (C C2:World→Prop) (Q:Exit→Act→World→Prop) (s:Nat):Nat→Array Bool→Act→World→Prop
  | 0,l,a,w=>C w∧Region.ready .any ops l=[]∧Q .normal a w
  | f+1,l,a,w=>C w∧(Region.ready .any ops l=[]→Q .normal a w)∧(∀ i∈Region.ready .any ops l,i≠s→wpOpIn (fen none) 0 P ops Q i (YT P ops C C2 Q s f (l.setIfInBounds i true)) a w) ∧
      (s∈Region.ready .any ops l→wpOpIn (fen none) 0 P ops Q s (Jq P ops C2 Q f (l.setIfInBounds s true)) a w)
theorem YT.any:∀ {f:Nat} {l:Array Bool} {a:Act} {w:World},YT P ops C C2 Q s f l a w→wpAnyIn (fen none) 0 P .any ops Q f l a w
  | 0,_,_,_,h=>h.2
  | f+1,l,_,_,h=>⟨h.2.1,fun i hi=>by
    by_cases e:i=s
    · subst e; exact wpOpIn_mono (fun _ _ h=>h.any) (h.2.2.2 hi)
    · exact wpOpIn_mono (fun _ _ h=>h.any) (h.2.2.1 i hi e)⟩
theorem YS {i:Nat} {oi:Oper} {v:Value} (hi:ops[i]?=some oi) (his:i≠s) (hsel:∀ (j:Nat) (o:Oper) cs b,ops[j]?=some o→o.op≠.select cs b) (hQ:∀ c a w,Q (.panic c) (a.put oi.dst v) w→Q (.panic c) a w) :
    ∀ (f:Nat) (l:Array Bool) (a:Act) (w:World),
      (∀ j oj,ops[j]?=some oj→j≠i→l.getD j true=false→(∀ e∈oj.after,Region.binds .any e=true→e.on≠i)→oi.apart ops oj=true) →
      i∈Region.ready .any ops l→Je P ops C oi v a→((∃ os e,ops[s]?=some os∧e∈os.after∧Region.binds .any e=true∧e.on=i)∨Je P ops C2 oi v a)→YT P ops C C2 Q s f (l.setIfInBounds i true) (a.put oi.dst v) w→YT P ops C C2 Q s (f+1) l a w:=by
  intro f
  induction f with
  | zero =>
    intro l a w _ hr hy _ H
    refine ⟨H.1,fun h=>(by rw [h] at hr; cases hr),fun j hj hjs=>?_,fun hj=>?_⟩
    · by_cases hji:j=i
      · subst hji; exact hy.op hi H.1 H
      · have:=ready_mono hj hji
        rw [H.2.1] at this
        cases this
    · have:=ready_mono hj (Ne.symm his)
      rw [H.2.1] at this
      cases this
  | succ f ih =>
    intro l a w hfree hr hy hc H
    have notOf:∀ j oj,j∈Region.ready .any ops l→ops[j]?=some oj→∀ e∈oj.after,Region.binds .any e=true→e.on≠i:=fun j oj hj hoj e he hb heq=>by
      obtain ⟨_,oj',hoj',hall⟩:=mem_ready.1 hj
      obtain rfl:oj=oj':=Option.some.inj (hoj.symm.trans hoj')
      have h1:=hall e he hb
      have h0:=(mem_ready.1 hr).1
      rw [heq] at h1
      rcases Nat.lt_or_ge i l.size with h' | h'
      · simp [h'] at h0 h1; rw [h0] at h1; cases h1
      · simp [Array.getElem?_eq_none h'] at h1
    have free':∀ j,∀ k ok,ops[k]?=some ok→k≠i→(l.setIfInBounds j true).getD k true=false →
          (∀ e∈ok.after,Region.binds .any e=true→e.on≠i)→oi.apart ops ok=true:=fun j k ok hk hki hun hno=>by
      refine hfree k ok hk hki ?_ hno
      by_cases hjk:j=k
      · subst hjk
        rcases Nat.lt_or_ge j l.size with h' | h'
        · simp [h'] at hun
        · simp [Array.getElem?_eq_none h'] at hun
      · rw [getD_set_ne true hjk] at hun; exact hun
    refine ⟨H.1,fun h=>(by rw [h] at hr; cases hr),fun j hj hjs=>?_,fun hj=>?_⟩
    · by_cases hji:j=i
      · subst hji; exact hy.op hi H.1 H
      · have h1:=H.2.2.1 j (ready_mono hj hji) hjs
        obtain ⟨hjun,oj,hoj,hall⟩:=mem_ready.1 hj
        have h2:=JI hoj (hfree j oj hoj hji hjun (notOf j oj hj hoj)) (fun cs b=>hsel i oi cs b hi) (fun cs b=>hsel j oj cs b hoj) hQ h1
        refine wpOpIn_mono (fun a' w' h3=>ih (l.setIfInBounds j true) a' w' (free' j) (ready_mono hr (Ne.symm hji)) (hy.pass h3.1) (hc.imp id (·.pass h3.1)) ?_) h2
        rw [Array.setIfInBounds_comm _ _ hji]
        exact h3.2
    · have hji:s≠i:=Ne.symm his
      have h1:=H.2.2.2 (ready_mono hj hji)
      obtain ⟨hjun,oj,hoj,hall⟩:=mem_ready.1 hj
      rcases hc with ⟨os,e,hos,he,hb,heq⟩ | hc
      · exact absurd heq (notOf s os hj hos e he hb)
      · have h2:=JI hoj (hfree s oj hoj hji hjun (notOf s oj hj hoj)) (fun cs b=>hsel i oi cs b hi) (fun cs b=>hsel s oj cs b hoj) hQ h1
        refine wpOpIn_mono (fun a' w' h3=>J4 hi hsel hQ f (l.setIfInBounds s true) a' w' (free' s) (ready_mono hr (Ne.symm hji)) (hc.pass h3.1) ?_) h2
        rw [Array.setIfInBounds_comm _ _ hji]
        exact h3.2
end
section
variable {P:Program} {w0:World} {Q:Exit→Act→World→Prop} {n:Nat} {ds:List Deferred} {k:List It} {env env':Env} {H H' Hc:qe} {ops:Array Oper} {s:Nat}
def WS (P:Program) (w0:World) (Q:Exit→Act→World→Prop) (n:Nat) (ds:List Deferred) (k:List It) (ops:Array Oper) (Hc:qe) (s fuel:Nat) (listed:Array Bool) (env:Env) (H:qe):Prop :=
  ∀ a w,zx n env a→a.defers=ds→Sat w0 H w→YT P ops (Sat w0 Hc) (Sat w0 []) (Q0 P Q k) s fuel listed a w
theorem W_anyS {id:Nat} {l:List Oper} (Hc:qe) (s:Nat) (hm:P.follows .mixedOrders=true) (h:WS P w0 Q n ds k l.toArray Hc s l.length (Array.replicate l.length false) env H):W P none w0 Q n ds (.code (.region id l.toArray true)::k) env H:=by
  intro a w ha hd hs
  show (Code.region id l.toArray true).wpIn (fen none) 0 P (Qx P none Q k) a w
  exact wpIn_mono (wpIn_region_any hm (by simpa using (h a _ ha hd hs.drew).any)) fun _ _ _=>qdS
def qaJ (ops:Array Oper) (s i:Nat):Bool :=
  match ops[s]? with
  | some os=>os.after.any fun e=>Region.binds .any e && Nat.beq e.on i
  | none=>false
theorem KH {i:Nat} (h:qaJ ops s i=true):∃ os e,ops[s]?=some os∧e∈os.after∧Region.binds .any e=true∧e.on=i:=by
  unfold qaJ at h
  cases ho:ops[s]? with
  | none=>rw [ho] at h; cases h
  | some os =>
    rw [ho] at h
    obtain ⟨e,he,hb⟩:=Array.any_eq_true'.1 h
    rw [Bool.and_eq_true] at hb
    exact ⟨os,e,rfl,he,hb.1,Nat.eq_of_beq_eq_true hb.2⟩
theorem WS_take (i:Nat) {op:Op} {ty:TypeId} {v:Value} {d:Nat} {pos:String} {aft:Array Edge} {fuel:Nat} {listed l':Array Bool} (hi:ops[i]?=some ⟨some d,op,ty,pos,aft,none⟩) (his:Nat.beq i s=false) (hs:Region.noSelect ops=true) (hf:Region.free .any ops listed i=true) (hr:(Region.ready .any ops listed).contains i=true)
    (hdep:qaJ ops s i=true) (hcall:Yv op=true) (hl:listed.setIfInBounds i true=l') (hx:Ex P n env (Sat w0 Hc) op ty v) (hd:Nat.blt d n=true)
    (h:WS P w0 Q n ds k ops Hc s fuel l' ((d,v)::env) H):WS P w0 Q n ds k ops Hc s (fuel+1) listed env H:=fun a w ha hds hsat=>by
  subst hl
  exact YS hi (fun e=>by rw [e] at his; simp at his) (Region.noSelect_spec hs) (fun _ _ _ hq=>hq.elim) fuel listed a w (Region.free_spec hi hf) (by simpa using hr)
    ⟨by simp [Region.wanted],fun w hw=>hx a w _ _ _ _ ha hw,fun w _=>QC hcall w _⟩ (.inl (KH hdep)) (h _ w (ha.put (d:=some d) hd) hds hsat)
theorem Qp (i:Nat) {op:Op} {ty:TypeId} {v:Value} {d:Nat} {pos:String} {aft:Array Edge} {fuel:Nat} {listed l':Array Bool} (hi:ops[i]?=some ⟨some d,op,ty,pos,aft,none⟩) (his:Nat.beq i s=false) (hs:Region.noSelect ops=true) (hf:Region.free .any ops listed i=true) (hr:(Region.ready .any ops listed).contains i=true)
    (hcall:Yv op=true) (hl:listed.setIfInBounds i true=l') (hx:Ex P n env (fun _=>True) op ty v) (hd:Nat.blt d n=true)
    (h:WS P w0 Q n ds k ops Hc s fuel l' ((d,v)::env) H):WS P w0 Q n ds k ops Hc s (fuel+1) listed env H:=fun a w ha hds hsat=>by
  subst hl
  exact YS hi (fun e=>by rw [e] at his; simp at his) (Region.noSelect_spec hs) (fun _ _ _ hq=>hq.elim) fuel listed a w (Region.free_spec hi hf) (by simpa using hr)
    ⟨by simp [Region.wanted],fun w hw=>hx a w _ _ _ _ ha trivial,fun w _=>QC hcall w _⟩ (.inr ⟨by simp [Region.wanted],fun w hw=>hx a w _ _ _ _ ha trivial,fun w _=>QC hcall w _⟩) (h _ w (ha.put (d:=some d) hd) hds hsat)
theorem WS_one (i:Nat) {o:Oper} {fuel:Nat} {listed l':Array Bool} (hh:qr H Hc) (his:Nat.beq i s=false) (hr:Region.ready .any ops listed=[i]) (hi:ops[i]?=some o) (hl:listed.setIfInBounds i true=l')
    (h:W P none w0 (fun _ _ _=>False) n ds [.ops ops [o],.goal (fun a w=>YT P ops (Sat w0 Hc) (Sat w0 []) (Q0 P Q k) s fuel l' a w)] env H):WS P w0 Q n ds k ops Hc s (fuel+1) listed env H:=fun a w ha hds hsat=>by
  subst hl
  have hne:i≠s:=fun e=>by rw [e] at his; simp at his
  refine ⟨hsat.hsub hh,fun h0=>(by rw [hr] at h0; cases h0),fun j hj _=>?_,fun hj=>?_⟩
  · rw [hr] at hj
    obtain rfl:j=i:=by simpa using hj
    exact Y9 hi (h a w ha hds hsat)
  · rw [hr] at hj
    exact absurd (by simpa using hj:s=i).symm hne
theorem WS_last {o:Oper} {fuel:Nat} {listed l':Array Bool} (hh:qr H Hc) (hr:Region.ready .any ops listed=[s]) (hi:ops[s]?=some o) (hl:listed.setIfInBounds s true=l')
    (h:W P none w0 (fun _ _ _=>False) n ds [.ops ops [o],.goal (fun a w=>Jq P ops (Sat w0 []) (Q0 P Q k) fuel l' a w)] env H):WS P w0 Q n ds k ops Hc s (fuel+1) listed env H:=fun a w ha hds hsat=>by
  subst hl
  refine ⟨hsat.hsub hh,fun h0=>(by rw [hr] at h0; cases h0),fun j hj hjs=>?_,fun hj=>Y9 hi (h a w ha hds hsat)⟩
  rw [hr] at hj
  exact absurd (by simpa using hj) hjs
theorem WS_goal {fuel:Nat} {l':Array Bool} {k':List It} {Q':Exit→Act→World→Prop} (h:WS P w0 Q n ds k ops Hc s fuel l' env H):W P none w0 Q' n ds (.goal (fun a w=>YT P ops (Sat w0 Hc) (Sat w0 []) (Q0 P Q k) s fuel l' a w)::k') env H :=
  YV fun a w ha hd hs=>h a w ha hd hs
end
end Go.Sl
