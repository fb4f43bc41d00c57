/-
  Own work: a small logic for walking through a function's code: facts on slots, owned blocks of memory, and its rules; of any program.
-/
import Derived.Test.YtincjohoncljoaaGreatDoorLfS1
import Derived.Laws.Cover3
import Derived.Laws.IdiomStrings
import Derived.ChangeKeysEq
import Derived.Deep.Slices
import Derived.OpenShut
import Derived.Maps.RangeRun
import Derived.WideLaws
import Derived.Shelf.SlSortCmp.Whole1
set_option linter.all false
set_option linter.unusedSimpArgs false
set_option linter.unusedVariables false
namespace Go.Sl
open Go.RowKit
section
variable {P:Program} {w0:World} {H H':Heap}
theorem Cell.up {b i:Nat} {v:Value} (h:Cell w0 H b i v) (hs:HSub H' H):Cell w0 H' b i v:=fun w hw=>h w (hw.hsub hs)
theorem Cells.up {b i:Nat} {vs:List Value} (h:Cells w0 H b i vs) (hs:HSub H' H):Cells w0 H' b i vs:=fun j v hv=>(h j v hv).up hs
theorem Holds.up {ad:Option Addr} {l:List Value} (h:Holds w0 H ad l) (hs:HSub H' H):Holds w0 H' ad l:=fun j x hx=>by
  obtain ⟨b,o,e,hc⟩:=h j x hx
  exact ⟨b,o,e,hc.up hs⟩
theorem Holds.old {ad:Option Addr} {l:List Value} (h:∀ (j:Nat) x,l[j]?=some x→∃ b o,ad=some ⟨b,o,none⟩∧w0.cell? ⟨b,o+j,none⟩=some x):Holds w0 H ad l:=fun j x hx=>by
  obtain ⟨b,o,e,hc⟩:=h j x hx
  exact ⟨b,o,e,Cell.old hc⟩
theorem Holds.at {ad:Option Addr} {l:List Value} {i:Nat} {v:Value} (h:Holds w0 H ad l) (hv:l[i]?=some v):∃ b o,ad=some ⟨b,o,none⟩∧Cell w0 H b (o+i) v:=h i v hv
theorem flat_at {α:Type} {f:α→List Value} {s:Nat} (hf:∀ x,(f x).length=s):∀ {l:List α} {i:Nat} {x:α},l[i]?=some x→∀ j v,(f x)[j]?=some v→(l.flatMap f)[i*s+j]?=some v
  | [],_,_,h,_,_,_=>by simp at h
  | y::l,0,x,h,j,v,hv=>by
    have:y=x:=by simpa using h
    subst this
    rw [List.flatMap_cons,List.getElem?_append_left (by rw [Nat.zero_mul,Nat.zero_add]; exact (List.getElem?_eq_some_iff.1 hv).1)]
    simpa using hv
  | y::l,i+1,x,h,j,v,hv=>by
    have ih:=flat_at hf (l:=l) (i:=i) (by simpa using h) j v hv
    rw [List.flatMap_cons,List.getElem?_append_right (by rw [hf,Nat.add_mul]; omega),hf,show (i+1)*s+j-s=i*s+j by rw [Nat.add_mul]; omega]
    exact ih
theorem flat_length {α:Type} {f:α→List Value} {s:Nat} (hf:∀ x,(f x).length=s):∀ l:List α,(l.flatMap f).length=l.length*s
  | []=>by simp
  | x::l=>by rw [List.flatMap_cons,List.length_append,hf,flat_length hf l,List.length_cons,Nat.add_mul]; omega
theorem Holds.row {α:Type} {f:α→List Value} {s:Nat} (hf:∀ x,(f x).length=s) (hs:0<s) {ad:Option Addr} {l:List α} {i:Nat} {x:α} (h:Holds w0 H ad (l.flatMap f)) (hx:l[i]?=some x):∃ b o,ad=some ⟨b,o,none⟩∧Cells w0 H b (o+i*s) (f x):=by
  have h0:0<(f x).length:=by rw [hf]; exact hs
  obtain ⟨b,o,e,_⟩:=h _ _ (flat_at hf hx 0 _ (List.getElem?_eq_getElem h0))
  subst e
  refine ⟨b,o,rfl,fun j v hv=>?_⟩
  obtain ⟨b',o',e',hc⟩:=h _ _ (flat_at hf hx j v hv)
  cases e'
  rw [Nat.add_assoc]; exact hc
theorem Holds.of_own {e:TypeId} {s:Nat} {v:Value} {n:Nat} {xs:List Value} {HB:Heap} (h:OwnS e s v n xs HB) (hm:∀ p∈HB,p∈H):∃ ad cap,v=.slice ad n cap∧n≤cap∧cap≤maxLen∧Holds w0 H ad xs:=by
  cases h with
  | nil=>exact ⟨none,0,rfl,Nat.le_refl _,Nat.zero_le _,Holds.nil⟩
  | own h1 h2 h3=>exact ⟨_,_,rfl,h2,h3,Holds.own (hm _ List.mem_cons_self)⟩
def PureAt (P:Program) (w0:World) (H:Heap) (f:FuncId) (args:List Value) (v:Value):Prop:=LCalls P w0 f args.toArray H (fun v' H'=>v'=v∧H'=H)
theorem Pure.at {T:World→Prop} {f:FuncId} {args:List Value} {v:Value} (h:Pure P T f args v) (hT:T w0):PureAt P w0 H f args v:=h w0 H hT
end
section
variable {P:Program} {rd:Option Nat} {w0:World} {Q:Exit→Act→World→Prop} {n:Nat} {ds:List Deferred} {k:List It} {env env':Env} {H H':Heap} {all:Array Oper} {rest:List Oper}
variable {x y c:Operand} {t u ty:TypeId} {pos:String} {aft:Array Edge} {v:Value}
theorem yielded_undef {a:Act} (ha:Agree n env a) {j dj:Nat} (hj:(all[j]?).bind (·.dst)=some dj) (ht:look env dj=some undef):yielded all a.tmps j=none:=by
  have hv:=ha.val _ _ ht
  unfold yielded
  rw [hj]
  simp only [Option.bind_some]
  rcases Nat.lt_or_ge dj a.tmps.size with h | h
  · rw [Array.getD_eq_getD_getElem?,Array.getElem?_eq_getElem h] at hv
    rw [Array.getElem?_eq_getElem h]
    simp only [Option.getD_some] at hv
    rw [hv]; rfl
  · rw [Array.getElem?_eq_none h]
theorem W_callq {d:Option Nat} {f:FuncId} {l:List Operand} {vs:List Value} {tys:Array TypeId} (hc:OpVs env l vs) (hf:∀ (args:Array Value) (w:World),(callFunc f args).run P w=.ok (.enter f args) w) (hd:dok n d=true)
    (hL:PureAt P w0 H f vs v) (h:W P rd w0 Q n ds (.ops all rest::k) (put d v env) H) :
    W P rd w0 Q n ds (.ops all (⟨d,.call ⟨.value (.func f),l.toArray,tys⟩,t,pos,aft,none⟩::rest)::k) env H :=
  W_call hc hf hd hL (by rintro v' H' ⟨rfl,rfl⟩; exact h)
theorem W_callqv {d:Option Nat} {f:FuncId} {l:List Operand} {vs args:List Value} {fa ca:List Value} {tys:Array TypeId} (hx:opv env x=some (.func (.func f) fa.toArray ca.toArray)) (hc:OpVs env l vs) (ha:fa++vs++ca=args) (hf:∀ (args:Array Value) (w:World),(callFunc f args).run P w=.ok (.enter f args) w) (hd:dok n d=true)
    (hL:PureAt P w0 H f args v) (h:W P rd w0 Q n ds (.ops all rest::k) (put d v env) H) :
    W P rd w0 Q n ds (.ops all (⟨d,.call ⟨.value x,l.toArray,tys⟩,t,pos,aft,none⟩::rest)::k) env H:=by
  subst ha
  refine W_callv hx hc hf hd (R:=fun v' H'=>v'=v∧H'=H) ?_ (by rintro v' H' ⟨rfl,rfl⟩; exact h)
  have:=hL
  unfold PureAt at this
  simpa using this
theorem WQ_callq {ops:Array Oper} {f:FuncId} {l:List Operand} {vs:List Value} {d:Option Nat} {tys:Array TypeId} (hc:OpVs env l vs) (hf:∀ (args:Array Value) (w:World),(callFunc f args).run P w=.ok (.enter f args) w) (hd:dok n d=true)
    (hL:PureAt P w0 H f vs v) (h:WQ P w0 Q n ds k ops rest (put d v env) H) :
    WQ P w0 Q n ds k ops (⟨d,.call ⟨.value (.func f),l.toArray,tys⟩,ty,pos,aft,none⟩::rest) env H:=fun a ha hds=>by
  refine ⟨fun _ _ _ _=>trivial,?_⟩
  rw [if_pos (by simp [Region.wanted])]
  refine ⟨v,fun w hs=>?_,h _ (ha.put hd) (by cases d <;> exact hds)⟩
  unfold Oper.quietAtIn
  have hl:l.map a.eval=vs:=ha.opvs hc
  rw [show (execOp a.eval ⟨d,.call ⟨.value (.func f),l.toArray,tys⟩,ty,pos,aft,none⟩).run P w=.ok (.enter f vs.toArray) w by
    simp [execOp,resolve,Act.eval,Deferred.ofValue,invoke,hl,hf,Result.andThen]]
  refine ⟨rfl,fun h=>by simp [Fence.wide] at h,?_⟩
  have hcl:CallsIn (fen none) 0 P f vs.toArray w _:=hL w hs
  exact hcl.mono fun e w'' ⟨v',H',he,⟨hv,hH⟩,hs'⟩=>⟨by rw [he,hv],by rw [← hH]; exact hs'⟩
def JoinJ (w0:World) (n:Nat) (ds:List Deferred) (env:Env) (H:Heap) (a:Act) (w:World):Prop:=Agree n env a∧a.defers=ds∧Sat w0 H w
theorem W_joined (he:sub env' env) (hh:HSub H H') {k':List It}:W P rd w0 Q n ds (.goal (JoinJ w0 n ds env' H')::k') env H:=W_goal fun _ _ ha hd hs=>⟨ha.weaken (look_of_sub he),hd,hs.hsub hh⟩
theorem wpIn_scope {F:Fence} {n:Nat} {c:Code} {a:Act} {w:World} {Q:Exit→Act→World→Prop} (hQ:∀ l a w,Q (.goto l) a w→False) (h:c.wpIn F n P Q a w):(Code.scope c).wpIn F n P Q a w:=by
  intro b k cs hro hb hr
  have s1:step P (lone (b.atR a (.code (.scope c)::k)) cs w)=.next (lone (b.atR a (.code c::.inScope c::k)) cs w):=step_lone_go (by simp [stepG,stepG.exec,Frame.atR])
  have h0:(lone (b.atR a (.code (.scope c)::k)) cs w).fenced P F:=fenced_calm hb hr rfl
  have hx:∀ id,exitTo id (.inScope c::k)=exitTo id k:=fun id=>by simp [exitTo]
  obtain ⟨e,a₁,w₁,hq,harr⟩:=h b (.inScope c::k) cs hro hb hr
  cases e with
  | normal =>
    have s2:step P (lone (b.atR a₁ (.inScope c::k)) cs w₁)=.next (lone (b.atR a₁ k) cs w₁):=step_lone_go (by simp [stepG,stepG.exec,Frame.atR])
    exact ⟨.normal,a₁,w₁,hq,.head h0 s1 (StepsIn.trans harr (.one (fenced_calm (fr:=b.atR a₁ (.inScope c::k)) hb hr rfl) s2))⟩
  | exit id =>
    exact ⟨.exit id,a₁,w₁,hq,fun k' hk=>.head h0 s1 (harr.1 k' (by rw [hx]; exact hk)),
      fun hr' hk=>let ⟨k₁,h1,h2⟩:=harr.2 hr' (by rw [hx]; exact hk); ⟨k₁,h1,.head h0 s1 h2⟩⟩
  | goto l=>exact (hQ l a₁ w₁ hq).elim
  | ret=>exact ⟨_,a₁,w₁,hq,.of_steps (.one h0 s1) harr⟩
  | panic ch=>exact ⟨_,a₁,w₁,hq,.of_steps (.one h0 s1) harr⟩
  | outgrown=>exact ⟨_,a₁,w₁,hq,.of_steps (.one h0 s1) harr⟩
theorem cont_goto {l:Nat}:∀ {k:List It} (a:Act) (w:World),Cont P rd Q k (.goto l) a w→Q (.goto l) a w
  | [],_,_,h=>h
  | .blk _::k,a,w,h=>cont_goto (k:=k) a w h
  | .code _::k,a,w,h=>cont_goto (k:=k) a w h
  | .ops _ _::k,a,w,h=>cont_goto (k:=k) a w h
  | .goal _::k,a,w,h=>cont_goto (k:=k) a w h
theorem W_scope {c:Code} (hQ:∀ l a w,Q (.goto l) a w→False) (h:W P rd w0 Q n ds (.code c::k) env H):W P rd w0 Q n ds (.code (.scope c)::k) env H :=
  fun a w ha hd hs=>wpIn_scope (fun l a w hc=>hQ l a w (cont_goto a w hc)) (h a w ha hd hs)
theorem W_label {l:Nat} (h:W P rd w0 Q n ds k env H):W P rd w0 Q n ds (.code (.label l)::k) env H:=fun a w ha hd hs=>wpIn_label (h a w ha hd hs)
end
end Go.Sl
namespace Go.Sl
open Go.RowKit
section
variable {P:Program} {rd:Option Nat} {w0:World} {Q:Exit→Act→World→Prop} {n:Nat} {ds:List Deferred} {k:List It} {env:Env} {H:Heap}
theorem W_loopC {X:Type} {c:Code} (C:Env) (E:X→Env) (DS:X→List Deferred) (HH:X→Heap) (I:X→Prop) (μ:X→Nat) (x0:X) (h0:I x0) (hc:sub C env) (he:sub (E x0) env) (hd0:ds=DS x0) (hh:HSub H (HH x0))
    (round:∀ x,I x→W P rd w0 Q n (DS x) (.code c::.goal (fun a w=>∃ x',I x'∧μ x' < μ x∧Agree n (E x'++C) a∧a.defers=DS x'∧Sat w0 (HH x') w)::k) (E x++C) (HH x)) :
    W P rd w0 Q n ds (.code (.loop c)::k) env H :=
  W_loopD (fun x=>E x++C) DS HH I μ x0 h0 (fun p hp=>(List.mem_append.1 hp).elim (he p) (hc p)) hd0 hh round
variable {H':Heap} {all:Array Oper} {rest:List Oper} {d:Nat} {x y c:Operand} {t u ty:TypeId} {pos:String} {aft:Array Edge} {v:Value}
theorem X_buildArr {s by_ len es eb:Nat} {z ez:Value} {e:TypeId} {ed:TypeDesc} {parts:List (Nat × Operand)} {ps:List (Nat × List Value)} {l:List Value} {C:World→Prop} (ht:Ty P t (.array len e) s z by_) (he:Ty P e ed es ez eb)
    (hp:Parts env (rowPlace es) s parts ps) (hz:Nat.beq z.cells.size s=true) (hl:fillL z.cells.toList ps=l) :
    Ex P n env C (.build t parts.toArray) ty (.agg l.toArray):=fun a w d pos aft g ha _=>by
  obtain ⟨out,ho,hol⟩:=hp.run ha (cells:=z.cells) (by simpa using hz)
  have hout:out=l.toArray:=by apply Array.ext'; rw [hol,hl]
  have ho':Instr.fill (fun i=>some (i*es,es)) z.cells (parts.map fun (i,x)=>(i,a.eval x))=some out:=ho
  have hr:(Instr.build t (parts.map fun (i,x)=>(i,a.eval x)).toArray).run P w=.ok (.agg l.toArray) w:=by
    unfold Instr.build
    simp only [Sem.run_bind,ht.zero,ht.run,he.size,Result.andThen]
    rw [ho']
    subst hout
    rfl
  simp only [execOp,List.map_toArray,Sem.run_bind,hr]
  simp [Result.andThen]
theorem W_buildArr {s by_ len es eb:Nat} {z ez:Value} {e:TypeId} {ed:TypeDesc} {parts:List (Nat × Operand)} {ps:List (Nat × List Value)} {l:List Value} (ht:Ty P t (.array len e) s z by_) (he:Ty P e ed es ez eb)
    (hp:Parts env (rowPlace es) s parts ps) (hz:Nat.beq z.cells.size s=true) (hl:fillL z.cells.toList ps=l) (hd:Nat.blt d n=true)
    (h:W P rd w0 Q n ds (.ops all rest::k) ((d,.agg l.toArray)::env) H) :
    W P rd w0 Q n ds (.ops all (⟨some d,.build t parts.toArray,ty,pos,aft,none⟩::rest)::k) env H :=
  W_pure rfl nofun hd (fun a w ha hs=>X_buildArr (C:=fun _=>True) ht he hp hz hl a w _ _ _ _ ha trivial) h
end
end Go.Sl
namespace Go.Sl
open Go.RowKit
inductive Res1 (P:Program) (w0:World) (env:Env) (H:Heap):ResultVar→Value→Prop
  | tmp {t:Nat} {v:Value} (h:look env t=some v):Res1 P w0 env H (.tmp t) v
  | own {t ty b s e tot by_:Nat} {td:TypeDesc} {z:Value} {vs:List Value} (hv:look env t=some (.pointer (some ⟨b,0,none⟩))) (ht:Ty P ty td s z by_) (hf:flat td=false) (hm:(b,Blk.cells e tot vs)∈H) (hl:vs.length=s):Res1 P w0 env H (.cell t ty) (.agg vs.toArray)
  | one {t ty b i s by_:Nat} {td:TypeDesc} {z v:Value} (hv:look env t=some (.pointer (some ⟨b,i,none⟩))) (ht:Ty P ty td s z by_) (hf:flat td=true) (hc:Cell w0 H b i v):Res1 P w0 env H (.cell t ty) v
def resOf (tmps:Array Value):ResultVar→Sem Value
  | .tmp t=>pure (tmps.getD t undef)
  | .cell a t=>do loadVar t (← asAddr (tmps.getD a undef))
theorem Res1.run {P:Program} {w0 w:World} {env:Env} {H:Heap} {r:ResultVar} {v:Value} {n:Nat} {a:Act} (h:Res1 P w0 env H r v) (ha:Agree n env a) (hs:Sat w0 H w):(resOf a.tmps r).run P w=.ok v w:=by
  cases h with
  | tmp h=>simp [resOf,ha.val _ _ h]
  | @own t ty b s e tot by_ td z vs hv ht hf hm hl =>
    have hc:Cells w0 H b 0 vs:=Cells.own hm (by simp)
    have hcs:=run_loadCells_list (P:=P) (w:=w) ⟨b,0,none⟩ vs (fun j u hu=>by rw [addr_add]; exact hc j u hu w hs)
    rw [hl] at hcs
    simp [resOf,ha.val _ _ hv,asAddr,loadVar,ht.isAgg,ht.size,hf,hcs,Result.andThen]
  | one hv ht hf hc=>simp [resOf,ha.val _ _ hv,asAddr,loadVar,ht.isAgg,hf,hc w hs,Result.andThen]
section
variable {P:Program} {w0:World} {fn:Func} {R:Value→Heap→Prop} {n:Nat} {ds:List Deferred} {k:List It} {env:Env} {H H' H2:Heap} {r1 r2 r3:ResultVar} {v1 v2 v3:Value}
theorem results_eq (fn:Func) (tmps:Array Value):results fn tmps=(do let vs ← fn.results.mapM (resOf tmps); pure (if h:vs.size=1 then vs[0] else .tuple vs)):=by
  unfold results resOf; rfl
theorem run_res2G {a:Act} {w:World} (hr:fn.results=#[r1,r2]) (h1:Res1 P w0 env H r1 v1) (h2:Res1 P w0 env H r2 v2) (ha:Agree n env a) (hs:Sat w0 H w):(results fn a.tmps).run P w=.ok (.tuple #[v1,v2]) w:=by
  have e1:=h1.run ha hs
  have e2:=h2.run ha hs
  simp [results_eq,hr,e1,e2,Result.andThen]
theorem run_res3G {a:Act} {w:World} (hr:fn.results=#[r1,r2,r3]) (h1:Res1 P w0 env H r1 v1) (h2:Res1 P w0 env H r2 v2) (h3:Res1 P w0 env H r3 v3) (ha:Agree n env a) (hs:Sat w0 H w):(results fn a.tmps).run P w=.ok (.tuple #[v1,v2,v3]) w:=by
  have e1:=h1.run ha hs
  have e2:=h2.run ha hs
  have e3:=h3.run ha hs
  simp [results_eq,hr,e1,e2,e3,Result.andThen]
theorem W_ret2G (hr:fn.results=#[r1,r2]) (hM:Marks ds H H') (h1:Res1 P w0 env H' r1 v1) (h2:Res1 P w0 env H' r2 v2) (hu:HSub H' H2) (hR:R (.tuple #[v1,v2]) H2):W P none w0 (FPost P w0 fn R) n ds (.code .ret::k) env H :=
  W_ret fun a w ha hd hs=>by
    show LeavesInM _ _ _ _ _ _ a.defers _ _
    rw [hd]
    exact leaves_marks hM hu (fun w hs'=>run_res2G hr h1 h2 ha hs') hs hR
theorem W_ret3G (hr:fn.results=#[r1,r2,r3]) (hM:Marks ds H H') (h1:Res1 P w0 env H' r1 v1) (h2:Res1 P w0 env H' r2 v2) (h3:Res1 P w0 env H' r3 v3) (hu:HSub H' H2) (hR:R (.tuple #[v1,v2,v3]) H2):W P none w0 (FPost P w0 fn R) n ds (.code .ret::k) env H :=
  W_ret fun a w ha hd hs=>by
    show LeavesInM _ _ _ _ _ _ a.defers _ _
    rw [hd]
    exact leaves_marks hM hu (fun w hs'=>run_res3G hr h1 h2 h3 ha hs') hs hR
end
end Go.Sl
namespace Go.Sl
open Go.RowKit
section
variable {P:Program} {rd:Option Nat} {w0:World} {Q:Exit→Act→World→Prop} {n:Nat} {ds:List Deferred} {k:List It} {env env':Env} {H H':Heap} {all:Array Oper} {rest:List Oper}
variable {d:Nat} {x y c:Operand} {t u ty:TypeId} {pos:String} {aft:Array Edge} {v:Value}
def b8 (l:List Int):List UInt8:=l.map fun z=>UInt8.ofNat z.toNat
end
end Go.Sl
namespace Go.Sl
open Go.RowKit
section
variable {P:Program} {ops:Array Oper} {C:World→Prop} {Q:Exit→Act→World→Prop}
def anyC (P:Program) (ops:Array Oper) (C:World→Prop) (Q:Exit→Act→World→Prop):Nat→Array Bool→Act→World→Prop
  | 0,l,a,w=>C w∧Region.ready .any ops l=[]∧Q .normal a w
  | f+1,l,a,w=>C w∧(Region.ready .any ops l=[]→Q .normal a w)∧∀ i∈Region.ready .any ops l,wpOpIn (fen none) 0 P ops Q i (anyC P ops C Q f (l.setIfInBounds i true)) a w
theorem anyC.any:∀ {f:Nat} {l:Array Bool} {a:Act} {w:World},anyC P ops C Q f l a w→wpAnyIn (fen none) 0 P .any ops Q f l a w
  | 0,_,_,_,h=>h.2
  | f+1,_,_,_,h=>⟨h.2.1,fun i hi=>wpOpIn_mono (fun _ _ h=>h.any) (h.2.2 i hi)⟩
structure TakesC (P:Program) (ops:Array Oper) (C:World→Prop) (o:Oper) (v:Value) (a:Act):Prop where
  wanted:Region.wanted o (yielded ops a.tmps)=true
  run:∀ w,C w→(execOp a.eval o).run P w=.ok (.value v) w
  about:∀ w,C w→o.about P w a.eval=none
structure PassC (P:Program) (ops:Array Oper) (o o':Oper) (a a':Act):Prop where
  run:execOp a'.eval o=execOp a.eval o
  wanted:Region.wanted o (yielded ops a'.tmps)=Region.wanted o (yielded ops a.tmps)
  about:∀ w,o.about P w a'.eval=o.about P w a.eval
theorem TakesC.pass {o o':Oper} {v:Value} {a a':Act} (h:TakesC P ops C o v a) (hs:PassC P ops o o' a a'):TakesC P ops C o v a' :=
  ⟨hs.wanted.trans h.wanted,fun w hw=>by rw [hs.run]; exact h.run w hw,fun w hw=>by rw [hs.about]; exact h.about w hw⟩
theorem TakesC.op {i:Nat} {o:Oper} {v:Value} {a:Act} {w:World} {K:Act→World→Prop} (hi:ops[i]?=some o) (hy:TakesC P ops C o v a) (hw:C w) (h:K (a.put o.dst v) w):wpOpIn (fen none) 0 P ops Q i K a w:=by
  unfold Go.wpOpIn
  simp only [hi,hy.wanted,if_true,Oper.wpIn,Oper.semAt_none,hy.run w hw,Oper.uponIn]
  exact ⟨fun f hf=>(by rw [hy.about w hw] at hf; cases hf),h⟩
theorem op_putC {j:Nat} {oi oj:Oper} {v:Value} (hj:ops[j]?=some oj) (hap:oi.apart ops oj=true) (hsi:∀ cs b,oi.op≠.select cs b) (hsj:∀ cs b,oj.op≠.select cs b)
    (hQ:∀ c a w,Q (.panic c) (a.put oi.dst v) w→Q (.panic c) a w) {K:Act→World→Prop} {a:Act} {w:World} (h:wpOpIn (fen none) 0 P ops Q j K (a.put oi.dst v) w) :
    wpOpIn (fen none) 0 P ops Q j (fun a' w'=>PassC P ops oi oj a a'∧K (a'.put oi.dst v) w') a w:=by
  obtain ⟨h1,h2,h3⟩:=Oper.apart_spec hap
  have keep:∀ u,PassC P ops oi oj a (a.put oj.dst u):=fun u=>⟨execOp_put oi hsi a oj.dst u h3,wanted_put oi a oj.dst u h3,fun w=>about_put oi w a oj.dst u h3⟩
  have keepD:∀ d u,PassC P ops oi oj a (Act.put { a with defers:=d::a.defers } oj.dst u):=fun d u=>by
    have h:=(⟨execOp_put oi hsi { a with defers:=d::a.defers } oj.dst u h3,wanted_put oi { a with defers:=d::a.defers } oj.dst u h3,fun w=>about_put oi w { a with defers:=d::a.defers } oj.dst u h3⟩:PassC P ops oi oj { a with defers:=d::a.defers } _)
    exact ⟨h.run,h.wanted,h.about⟩
  unfold wpOpIn at *
  simp only [hj] at *
  rw [wanted_put oj a oi.dst v h1,about_put oj w a oi.dst v h1] at h
  split
  · rename_i hw
    simp only [hw,if_true] at h
    unfold Oper.wpIn at *
    rw [about_put oj w a oi.dst v h1] at h
    refine ⟨h.1,?_⟩
    have h:=h.2
    rw [Oper.semAt_none,execOp_put oj hsj a oi.dst v h1] at h
    rw [Oper.semAt_none]
    generalize (execOp a.eval oj).run P w=r at *
    cases r with
    | ok x w' =>
      cases x <;> simp only [Oper.uponIn] at h ⊢
      case value u=>exact ⟨keep u,by rw [← Act.put_comm a v u h2]; exact h⟩
      case skip=>exact ⟨keep _,by rw [← Act.put_comm a v undef h2]; exact h⟩
      case defer d =>
        refine ⟨keepD d _,?_⟩
        rw [← Act.put_comm _ v undef h2,← Act.put_defers]
        exact h
      case enter f args =>
        refine ⟨h.1,CallsIn.mono h.2 fun e w'' he=>?_⟩
        cases e with
        | returned u=>exact ⟨keep u,by rw [← Act.put_comm a v u h2]; exact he⟩
        | panicked c=>exact hQ _ _ _ he
        | outgrown=>exact he
      case row row args=>exact ⟨h.1,RowsIn.mono h.2 fun u w'' he=>⟨keep u,by rw [← Act.put_comm a v u h2]; exact he⟩⟩
      case round l f tmps assign body =>
        refine ⟨h.1,RoundIn.mono h.2 fun e w'' he=>?_⟩
        cases e with
        | returned u=>exact ⟨keep u,by rw [← Act.put_comm a v u h2]; exact he⟩
        | panicked c=>exact hQ _ _ _ he
        | outgrown=>exact he
    | halt x w' =>
      cases x <;> simp only [Oper.uponIn] at h ⊢
      case panic u=>exact hQ _ _ _ h
  · rename_i hw
    simp only [hw] at h
    exact ⟨h.1,keep _,by rw [← Act.put_comm a v undef h2]; exact h.2⟩
theorem anyC_first {i:Nat} {oi:Oper} {v:Value} (hi:ops[i]?=some oi) (hsel:∀ (j:Nat) (o:Oper) cs b,ops[j]?=some o→o.op≠.select cs b) (hQ:∀ c a w,Q (.panic c) (a.put oi.dst v) w→Q (.panic c) a w) :
    ∀ (f:Nat) (l:Array Bool) (a:Act) (w:World),
      (∀ j oj,ops[j]?=some oj→j≠i→l.getD j true=false→(∀ e∈oj.after,Region.binds .any e=true→e.on≠i)→oi.apart ops oj=true) →
      i∈Region.ready .any ops l→TakesC P ops C oi v a→anyC P ops C Q f (l.setIfInBounds i true) (a.put oi.dst v) w→anyC P ops C Q (f+1) l a w:=by
  intro f
  induction f with
  | zero =>
    intro l a w _ hr hy H
    refine ⟨H.1,fun h=>(by rw [h] at hr; cases hr),fun j hj=>?_⟩
    by_cases hji:j=i
    · subst hji; exact hy.op hi H.1 H
    · have:=ready_mono hj hji
      rw [H.2.1] at this
      cases this
  | succ f ih =>
    intro l a w hfree hr hy H
    refine ⟨H.1,fun h=>(by rw [h] at hr; cases hr),fun j hj=>?_⟩
    by_cases hji:j=i
    · subst hji; exact hy.op hi H.1 H
    · have h1:=H.2.2 j (ready_mono hj hji)
      obtain ⟨hjun,oj,hoj,hall⟩:=mem_ready.1 hj
      have hnot:∀ e∈oj.after,Region.binds .any e=true→e.on≠i:=fun e he hb heq=>by
        have h1:=hall e he hb
        have h0:=(mem_ready.1 hr).1
        rw [heq] at h1
        rcases Nat.lt_or_ge i l.size with h' | h'
        · simp [h'] at h0 h1; rw [h0] at h1; cases h1
        · simp [Array.getElem?_eq_none h'] at h1
      have h2:=op_putC hoj (hfree j oj hoj hji hjun hnot) (fun cs b=>hsel i oi cs b hi) (fun cs b=>hsel j oj cs b hoj) hQ h1
      have hfree':∀ k ok,ops[k]?=some ok→k≠i→(l.setIfInBounds j true).getD k true=false →
          (∀ e∈ok.after,Region.binds .any e=true→e.on≠i)→oi.apart ops ok=true:=fun k ok hk hki hun hno=>by
        refine hfree k ok hk hki ?_ hno
        by_cases hjk:j=k
        · subst hjk; exact hjun
        · rw [getD_set_ne true hjk] at hun; exact hun
      refine wpOpIn_mono (fun a' w' h3=>ih (l.setIfInBounds j true) a' w' hfree' (ready_mono hr (Ne.symm hji)) (hy.pass h3.1) ?_) h2
      rw [Array.setIfInBounds_comm _ _ hji]
      exact h3.2
end
section
variable {P:Program} {w0:World} {Q:Exit→Act→World→Prop} {n:Nat} {ds:List Deferred} {k:List It} {env env':Env} {H H' Hc:Heap} {ops:Array Oper}
def WC (P:Program) (w0:World) (Q:Exit→Act→World→Prop) (n:Nat) (ds:List Deferred) (k:List It) (ops:Array Oper) (Hc:Heap) (fuel:Nat) (listed:Array Bool) (env:Env) (H:Heap):Prop :=
  ∀ a w,Agree n env a→a.defers=ds→Sat w0 H w→anyC P ops (Sat w0 Hc) (Q0 P Q k) fuel listed a w
theorem W_anyC {id:Nat} {l:List Oper} (Hc:Heap) (hm:P.follows .mixedOrders=true) (h:WC P w0 Q n ds k l.toArray Hc l.length (Array.replicate l.length false) env H):W P none w0 Q n ds (.code (.region id l.toArray true)::k) env H:=by
  intro a w ha hd hs
  show (Code.region id l.toArray true).wpIn (fen none) 0 P (Cont P none Q k) a w
  exact wpIn_mono (wpIn_region_any hm (by simpa using (h a _ ha hd hs.drew).any)) fun _ _ _=>Q0_of
theorem WC_done {fuel:Nat} {listed:Array Bool} (hh:HSub H Hc) (hr:Region.ready .any ops listed=[]) (h:W P none w0 Q n ds k env H):WC P w0 Q n ds k ops Hc fuel listed env H:=fun a w ha hd hs=>by
  have hq:Q0 P Q k .normal a w:=h a w ha hd hs
  cases fuel with
  | zero=>exact ⟨hs.hsub hh,hr,hq⟩
  | succ f=>exact ⟨hs.hsub hh,fun _=>hq,by rw [hr]; simp⟩
def NoCall:Op→Bool
  | .call ⟨.builtin _,_,_⟩=>true
  | .call _=>false
  | _=>true
theorem about_nocall {o:Oper} (h:NoCall o.op=true) (w:World) (ρ:Operand→Value):o.about P w ρ=none:=by
  unfold Oper.about
  cases ho:o.op <;> first | rfl | skip
  rename_i c
  obtain ⟨c,args,tys⟩:=c
  rw [ho] at h
  cases c with
  | builtin b=>simp [resolve,Result.andThen,Target.leads]
  | _=>simp [NoCall] at h
theorem WC_take (i:Nat) {op:Op} {ty:TypeId} {v:Value} {d:Nat} {pos:String} {aft:Array Edge} {fuel:Nat} {listed l':Array Bool} (hi:ops[i]?=some ⟨some d,op,ty,pos,aft,none⟩) (hs:Region.noSelect ops=true) (hf:Region.free .any ops listed i=true) (hr:(Region.ready .any ops listed).contains i=true)
    (hcall:NoCall op=true) (hl:listed.setIfInBounds i true=l') (hx:Ex P n env (Sat w0 Hc) op ty v) (hd:Nat.blt d n=true)
    (h:WC P w0 Q n ds k ops Hc fuel l' ((d,v)::env) H):WC P w0 Q n ds k ops Hc (fuel+1) listed env H:=fun a w ha hds hsat=>by
  subst hl
  exact anyC_first hi (Region.noSelect_spec hs) (fun _ _ _ hq=>hq.elim) fuel listed a w (Region.free_spec hi hf) (by simpa using hr)
    ⟨by simp [Region.wanted],fun w hw=>hx a w _ _ _ _ ha hw,fun w _=>about_nocall hcall w _⟩ (h _ w (ha.put (d:=some d) hd) hds hsat)
theorem wc_op {i:Nat} {o:Oper} {K:Act→World→Prop} {a:Act} {w:World} (hi:ops[i]?=some o) (h1:wpListIn (fen none) 0 P ops (Cont P none (fun _ _ _=>False) [.goal K]) [o] a w):wpOpIn (fen none) 0 P ops (Q0 P Q k) i K a w:=by
  unfold wpOpIn
  rw [hi]
  unfold wpListIn at h1
  show if _ then _ else _
  split
  · rename_i hw
    rw [if_pos hw] at h1
    unfold Oper.wpIn
    refine ⟨h1.1,?_⟩
    have h2:=h1.2
    generalize (o.semAt (fen none).round a.eval).run P w=r at h2 ⊢
    cases r with
    | ok x w' =>
      cases x <;> simp only [Oper.uponIn] at h2 ⊢ <;>
        first
          | exact h2
          | exact ⟨h2.1,CallsIn.mono h2.2 (fun e w'' he=>by cases e <;> first | exact he | exact he.elim | (obtain ⟨_,_,hf⟩:=he; exact hf.elim))⟩
          | exact ⟨h2.1,RowsIn.mono h2.2 (fun _ _ he=>he)⟩
          | exact ⟨h2.1,RoundIn.mono h2.2 (fun e w'' he=>by cases e <;> first | exact he | exact he.elim | (obtain ⟨_,_,hf⟩:=he; exact hf.elim))⟩
    | halt x w'=>cases x <;> simp only [Oper.uponIn] at h2 ⊢ <;> first | exact h2 | exact h2.elim
  · rename_i hw
    rw [if_neg hw] at h1
    exact h1
theorem WC_one (i:Nat) {o:Oper} {fuel:Nat} {listed l':Array Bool} (hh:HSub H Hc) (hr:Region.ready .any ops listed=[i]) (hi:ops[i]?=some o) (hl:listed.setIfInBounds i true=l')
    (h:W P none w0 (fun _ _ _=>False) n ds [.ops ops [o],.goal (fun a w=>anyC P ops (Sat w0 Hc) (Q0 P Q k) fuel l' a w)] env H):WC P w0 Q n ds k ops Hc (fuel+1) listed env H:=fun a w ha hds hsat=>by
  subst hl
  refine ⟨hsat.hsub hh,fun h0=>(by rw [hr] at h0; cases h0),fun j hj=>?_⟩
  rw [hr] at hj
  obtain rfl:j=i:=by simpa using hj
  exact wc_op hi (h a w ha hds hsat)
theorem WC_two (i j:Nat) {o o':Oper} {fuel:Nat} {listed l' l'':Array Bool} (hh:HSub H Hc) (hr:Region.ready .any ops listed=[i,j]) (hi:ops[i]?=some o) (hj:ops[j]?=some o') (hl:listed.setIfInBounds i true=l') (hl':listed.setIfInBounds j true=l'')
    (h:W P none w0 (fun _ _ _=>False) n ds [.ops ops [o],.goal (fun a w=>anyC P ops (Sat w0 Hc) (Q0 P Q k) fuel l' a w)] env H)
    (h':W P none w0 (fun _ _ _=>False) n ds [.ops ops [o'],.goal (fun a w=>anyC P ops (Sat w0 Hc) (Q0 P Q k) fuel l'' a w)] env H):WC P w0 Q n ds k ops Hc (fuel+1) listed env H:=fun a w ha hds hsat=>by
  subst hl hl'
  refine ⟨hsat.hsub hh,fun h0=>(by rw [hr] at h0; cases h0),fun x hx=>?_⟩
  rw [hr] at hx
  rcases (show x=i∨x=j by simpa using hx) with rfl | rfl
  · exact wc_op hi (h a w ha hds hsat)
  · exact wc_op hj (h' a w ha hds hsat)
theorem WC_goal {fuel:Nat} {l':Array Bool} {k':List It} {Q':Exit→Act→World→Prop} (h:WC P w0 Q n ds k ops Hc fuel l' env H):W P none w0 Q' n ds (.goal (fun a w=>anyC P ops (Sat w0 Hc) (Q0 P Q k) fuel l' a w)::k') env H :=
  W_goal fun a w ha hd hs=>h a w ha hd hs
theorem W_cut {c:Code} (env':Env) (H':Heap) (h1:W P none w0 (fun _ _ _=>False) n ds [.code c,.goal (JoinJ w0 n ds env' H')] env H) (h:W P none w0 Q n ds k env' H'):W P none w0 Q n ds (.code c::k) env H:=fun a w ha hd hs=>by
  show c.wpIn (fen none) 0 P (Cont P none Q k) a w
  refine wpIn_mono (h1 a w ha hd hs) fun e a2 w2 hq=>?_
  cases e with
  | normal=>exact h a2 w2 hq.1 hq.2.1 hq.2.2
  | exit id=>exact hq.elim
  | goto l=>exact hq.elim
  | ret=>exact hq.elim
  | panic ch=>exact hq.elim
  | outgrown=>exact hq.elim
end
end Go.Sl
namespace Go.Sl
open Go.RowKit
section
variable {P:Program} {rd:Option Nat} {w0:World} {Q:Exit→Act→World→Prop} {n:Nat} {ds:List Deferred} {k:List It} {env env':Env} {H H':Heap}
def CutJ (w0:World) (n:Nat) (ds:List Deferred) {X:Type} (E:X→Env) (HH:X→Heap) (I:X→Prop) (a:Act) (w:World):Prop:=∃ x,I x∧Agree n (E x) a∧a.defers=ds∧Sat w0 (HH x) w
theorem W_cutX {X:Type} {c:Code} (E:X→Env) (HH:X→Heap) (I:X→Prop) (h1:W P rd w0 (fun _ _ _=>False) n ds [.code c,.goal (CutJ w0 n ds E HH I)] env H) (h:∀ x,I x→W P rd w0 Q n ds k (E x) (HH x)):W P rd w0 Q n ds (.code c::k) env H:=fun a w ha hd hs=>by
  show c.wpIn (fen rd) 0 P (Cont P rd Q k) a w
  refine wpIn_mono (h1 a w ha hd hs) fun e a2 w2 hq=>?_
  cases e with
  | normal =>
    obtain ⟨x,hI,hA,hD,hS⟩:=hq
    exact h x hI a2 w2 hA hD hS
  | exit id=>exact hq.elim
  | goto l=>exact hq.elim
  | ret=>exact hq.elim
  | panic ch=>exact hq.elim
  | outgrown=>exact hq.elim
theorem W_joinX {X:Type} {E:X→Env} {HH:X→Heap} {I:X→Prop} {k':List It} (x:X) (hI:I x) (he:sub (E x) env) (hh:HSub H (HH x)):W P rd w0 Q n ds (.goal (CutJ w0 n ds E HH I)::k') env H :=
  W_goal fun _ _ ha hd hs=>⟨x,hI,ha.weaken (look_of_sub he),hd,hs.hsub hh⟩
theorem X_build {t ty:TypeId} {s by_:Nat} {z:Value} {td:TypeDesc} {pl:List (Nat × Nat)} {parts:List (Nat × Operand)} {ps:List (Nat × List Value)} {l:List Value} {C:World→Prop} (ht:Ty P t td s z by_) (hst:StructPl P t pl)
    (hp:Parts env (fun i=>pl[i]?) s parts ps) (hz:Nat.beq z.cells.size s=true) (hl:fillL z.cells.toList ps=l):Ex P n env C (.build t parts.toArray) ty (.agg l.toArray):=fun a w d pos aft g ha _=>by
  obtain ⟨fs,h1,h2⟩:=hst.is
  obtain ⟨out,ho,hol⟩:=hp.run ha (cells:=z.cells) (by simpa using hz)
  have hout:out=l.toArray:=by apply Array.ext'; rw [hol,hl]
  have h2':=h2 w
  have ho':Instr.fill (pl.toArray[·]?) z.cells (parts.map fun (i,x)=>(i,a.eval x))=some out:=by simpa using ho
  have hr:(Instr.build t (parts.map fun (i,x)=>(i,a.eval x)).toArray).run P w=.ok (.agg l.toArray) w:=by
    unfold Instr.build
    simp only [Sem.run_bind,ht.zero,Result.andThen,run_underlying h1]
    rw [h2']
    simp only [ho',hout,Sem.run_pure]
  simp [execOp,hr,Result.andThen]
theorem X_sliceAt {b o len cap l hh s es by_ eb d':Nat} {x:Operand} {t ty:TypeId} {lo hi:Option Operand} {e:TypeId} {z ez:Value} {ed:TypeDesc} {C:World→Prop} (hx:opv env x=some (.slice (some ⟨b,o,none⟩) len cap)) (ht:Ty P t (.slice e) s z by_) (he:Ty P e ed es ez eb)
    (hlo:optIdx env 0 lo l) (hhi:optIdx env len hi hh) (h1:l≤hh) (h2:hh≤cap) (hd':d'=if cap=l then o else o+l*es):Ex P n env C (.slice t x lo hi none) ty (.slice (some ⟨b,d',none⟩) (hh-l) (cap-l)):=fun a w d pos aft g ha _=>by
  subst hd'
  have:=run_slice_slice (P:=P) (w:=w) (ad:=some ⟨b,o,none⟩) ha ht he hlo hhi h1 h2
  have ea:(if cap=l then some (⟨b,o,none⟩:Addr) else (some (⟨b,o,none⟩:Addr)).map (·.add (l*es)))=some ⟨b,if cap=l then o else o+l*es,none⟩:=by
    split <;> simp [addr_add]
  rw [ea] at this
  simp [execOp,ha.opv hx,this,Result.andThen]
end
end Go.Sl
namespace Go.Sl
open Go.RowKit
section
variable {P:Program} {rd:Option Nat} {w0:World} {Q:Exit→Act→World→Prop} {n:Nat} {ds:List Deferred} {k:List It} {env env':Env} {H H':Heap} {all:Array Oper} {rest:List Oper}
variable {d:Nat} {x y c:Operand} {t u ty:TypeId} {pos:String} {aft:Array Edge} {v:Value}
theorem run_ptrNil {ad:Option Addr} {s by_:Nat} {e:TypeId} {z:Value} (ht:Ty P t (.pointer e) s z by_) (w:World):(Op.equal t (.pointer ad) (.pointer none)).run P w=.ok ad.isNone w:=by
  have h1:∀ m,(Op.equalIn (m+1) t (.pointer ad) (.pointer none)).run P w=.ok ad.isNone w:=fun m=>by
    simp only [Op.equalIn,Sem.run_bind,ht.run,Result.andThen]
    cases ad <;> rfl
  exact h1 9999
theorem X_ptrNil {ad:Option Addr} {s by_:Nat} {e:TypeId} {z:Value} {C:World→Prop} (hx:opv env x=some (.pointer ad)) (hy:opv env y=some (.pointer none)) (ht:Ty P t (.pointer e) s z by_) :
    Ex P n env C (.binOp .eql t x y u) ty (.bool ad.isNone):=fun a w d pos aft g ha _=>by
  have he:(eqGuard .eql t x y (.pointer ad) (.pointer none)).run P w=.ok () w:=by simp [eqGuard]
  have h2:(Go.binOp .eql t (.pointer ad) (.pointer none)).run P w=.ok (.bool ad.isNone) w:=by
    simp [Go.binOp,run_ptrNil ht,Result.andThen]
  simp [execOp,ha.opv hx,ha.opv hy,he,h2,Result.andThen]
theorem X_ptrNotNil {ad:Option Addr} {s by_:Nat} {e:TypeId} {z:Value} {C:World→Prop} (hx:opv env x=some (.pointer ad)) (hy:opv env y=some (.pointer none)) (ht:Ty P t (.pointer e) s z by_) :
    Ex P n env C (.binOp .neq t x y u) ty (.bool (!ad.isNone)):=fun a w d pos aft g ha _=>by
  have he:(eqGuard .neq t x y (.pointer ad) (.pointer none)).run P w=.ok () w:=by simp [eqGuard]
  have h2:(Go.binOp .neq t (.pointer ad) (.pointer none)).run P w=.ok (.bool (!ad.isNone)) w:=by
    simp [Go.binOp,run_ptrNil ht,Result.andThen]
  simp [execOp,ha.opv hx,ha.opv hy,he,h2,Result.andThen]
theorem X_sliceArr {b o len l hh s es by_ eb:Nat} {lo hi:Option Operand} {e:TypeId} {z ez:Value} {ed:TypeDesc} {C:World→Prop} (hx:opv env x=some (.pointer (some ⟨b,o,none⟩))) (ht:Ty P t (.array len e) s z by_) (he:Ty P e ed es ez eb)
    (hlo:optIdx env 0 lo l) (hhi:optIdx env len hi hh) (h1:l≤hh) (h2:hh≤len) (h3:l<len):Ex P n env C (.slice t x lo hi none) ty (.slice (some ⟨b,o+l*es,none⟩) (hh-l) (len-l)):=fun a w d pos aft g ha _=>by
  have hb:(Instr.sliceBounds false len len (lo.map a.eval) (hi.map a.eval) none).run P w=.ok (l,hh,len) w:=by
    cases lo with
    | none =>
      have hl:l=0:=hlo
      subst hl
      cases hi with
      | none=>have:hh=len:=hhi; subst this; simp [Instr.sliceBounds,Result.andThen]
      | some o=>obtain ⟨q,hq⟩:=hhi; simp [Instr.sliceBounds,ha.opv hq,Instr.sliceBound,asIntOf,h2,Result.andThen]
    | some o' =>
      obtain ⟨q',hq'⟩:=hlo
      cases hi with
      | none=>have:hh=len:=hhi; subst this; simp [Instr.sliceBounds,ha.opv hq',Instr.sliceBound,asIntOf,h1,Result.andThen]
      | some o=>obtain ⟨q,hq⟩:=hhi; simp [Instr.sliceBounds,ha.opv hq,ha.opv hq',Instr.sliceBound,asIntOf,h1,h2,Result.andThen]
  have hne:¬ len=l:=by omega
  simp [execOp,Instr.sliceAt,ha.opv hx,ht.run,Instr.sureAddr,hb,he.size,Result.andThen,hne,addr_add]
theorem W_copy {b o dlen dcap m cap kk s sl bl bytes tot:Nat} {ad:Option Addr} {e e':TypeId} {zl z:Value} {de:TypeDesc} {l l' news:List Value} {od:Option Nat} (hx:opv env x=some (.slice (some ⟨b,o,none⟩) dlen dcap)) (hy:opv env y=some (.slice ad m cap)) (ht:Ty P t (.slice e) sl zl bl) (he:Ty P e de s z bytes)
    (hk:min m dlen=kk) (hl:news.length=kk*s) (hnews:Holds w0 H ad news) (h1:news.all Value.oneCell'=true) (hm:(b,Blk.cells e' tot l)∈H) (hi:o+news.length≤l.length) (hl':spliceL l o news=l') (hu:Upd b (.cells e' tot l) (.cells e' tot l') H H') (hd:dok n od=true)
    (h:W P rd w0 Q n ds (.ops all rest::k) (put od (.int .i64 (kk:Int)) env) H'):W P rd w0 Q n ds (.ops all (⟨od,.call ⟨.builtin .copy,#[x,y],#[t,u]⟩,ty,pos,aft,none⟩::rest)::k) env H :=
  W_gen rfl nofun hd fun a w ha hs=>by
    subst hl' hk
    obtain ⟨hb,cur,hc,hsz,htk⟩:=hs.own _ hm
    have hlen:l.length≤cur.size:=by
      have:=congrArg List.length htk
      simp only [List.length_take,Array.length_toList] at this
      omega
    have h1':∀ v∈news,v.oneCell'=true:=fun v hv=>List.all_eq_true.1 h1 v hv
    have hst:=run_storeCells_at P b o e' news 0 cur w hc (by omega) h1'
    simp only [Nat.add_zero] at hst
    have hfc:(Builtin.firstCells s (min m dlen) (.slice ad m cap)).run P w=.ok news.toArray w:=by
      cases ad with
      | none =>
        have:news=[]:=by
          cases hn:news with
          | nil=>rfl
          | cons y ys =>
            obtain ⟨_,_,e,_⟩:=hnews 0 y (by rw [hn]; rfl)
            cases e
        subst this
        simp [Builtin.firstCells]
      | some a0 =>
        obtain ⟨b1,o1,sp⟩:=a0
        by_cases hz:news=[]
        · subst hz
          have h0:min m dlen*s=0:=by simpa using hl.symm
          have:=run_loadCells_list (P:=P) (w:=w) ⟨b1,o1,sp⟩ [] (fun j u hu=>by simp at hu)
          simp only [List.length_nil] at this
          simp [Builtin.firstCells,h0,this,Result.andThen]
        · have hpos:0<news.length:=List.length_pos_iff.2 hz
          obtain ⟨b2,o2,e2,_⟩:=hnews 0 _ (List.getElem?_eq_getElem hpos)
          cases e2
          have:=run_loadCells_list (P:=P) (w:=w) ⟨b1,o1,none⟩ news (fun j u hu=>by
            obtain ⟨b3,o3,e3,hc3⟩:=hnews j u hu
            cases e3
            rw [addr_add]; exact hc3 w hs)
          rw [hl] at this
          simp [Builtin.firstCells,this,Result.andThen]
    refine ⟨.int .i64 ((min m dlen:Nat):Int),H',_,.inl ?_,hs.upd hu (setRow_below (cs:=(List.take o cur.toList++news++List.drop (o+news.length) cur.toList).toArray) hb) (fun j hj _=>setRow_other w b j _ hj) ?_,h⟩
    · simp [execOp,resolve,invoke,builtin,Builtin.copy_,ha.opv hx,ha.opv hy,ht.run,he.size,Builtin.lenOf,hfc,hst,goInt,Result.andThen]
    · refine ⟨_,setRow_heap w b cur _ e' _ hc,?_,?_⟩
      · simp only [List.size_toArray,List.length_append,List.length_take,List.length_drop,Array.length_toList]
        omega
      · rw [spliceL_length (by simpa using hi)]
        show (List.take o cur.toList++news++List.drop (o+news.length) cur.toList).take l.length=spliceL l o news
        unfold spliceL
        have e1:l.take o=cur.toList.take o:=by rw [← htk,List.take_take]; congr 1; omega
        have e2:l.drop (o+news.length)=(cur.toList.drop (o+news.length)).take (l.length-(o+news.length)):=by
          conv=>lhs; rw [← htk]
          rw [List.drop_take]
        rw [e1,e2,List.append_assoc,List.append_assoc,List.take_append,List.take_append]
        congr 1
        · rw [List.take_take]; congr 1; omega
        · congr 1
          · rw [List.take_of_length_le]; simp only [List.length_take,Array.length_toList]; omega
          · congr 1; simp only [List.length_take,Array.length_toList]; omega
end
end Go.Sl
namespace Go.Sl
open Go.RowKit
section
variable {P:Program} {w0:World} {Q:Exit→Act→World→Prop} {n:Nat} {ds:List Deferred} {k:List It} {env env':Env} {H H':Heap} {ops:Array Oper}
theorem wa_op {i:Nat} {o:Oper} {K:Act→World→Prop} {a:Act} {w:World} (hi:ops[i]?=some o) (h1:wpListIn (fen none) 0 P ops (Cont P none (fun _ _ _=>False) [.goal K]) [o] a w):wpOpIn (fen none) 0 P ops (Q0 P Q k) i K a w:=wc_op hi h1
theorem WA_two (i j:Nat) {o o':Oper} {fuel:Nat} {listed l' l'':Array Bool} (hr:Region.ready .any ops listed=[i,j]) (hi:ops[i]?=some o) (hj:ops[j]?=some o') (hl:listed.setIfInBounds i true=l') (hl':listed.setIfInBounds j true=l'')
    (h:W P none w0 (fun _ _ _=>False) n ds [.ops ops [o],.goal (fun a w=>wpAnyIn (fen none) 0 P .any ops (Q0 P Q k) fuel l' a w)] env H)
    (h':W P none w0 (fun _ _ _=>False) n ds [.ops ops [o'],.goal (fun a w=>wpAnyIn (fen none) 0 P .any ops (Q0 P Q k) fuel l'' a w)] env H):WA P w0 Q n ds k ops (fuel+1) listed env H:=fun a w ha hds hsat=>by
  subst hl hl'
  refine wpAnyIn_all hr (by simp) fun x hx=>?_
  rcases (show x=i∨x=j by simpa using hx) with rfl | rfl
  · exact wa_op hi (h a w ha hds hsat)
  · exact wa_op hj (h' a w ha hds hsat)
end
end Go.Sl
namespace Go.Sl
open Go.RowKit
theorem flat_take {α:Type} {f:α→List Value} {s:Nat} (hf:∀ x,(f x).length=s):∀ (l:List α) (k:Nat),(l.flatMap f).take (k*s)=(l.take k).flatMap f
  | [],k=>by simp
  | x::l,0=>by simp
  | x::l,k+1=>by
    rw [List.flatMap_cons,List.take_succ_cons,List.flatMap_cons,← flat_take hf l k,List.take_append,hf,List.take_of_length_le (by rw [hf,Nat.add_mul]; omega)]
    congr 2
    rw [Nat.add_mul]; omega
inductive Leaf where
  | int (q:IntKind)
  | bool
  | string
def Leaf.is:Leaf→Value→Prop
  | .int q,v=>∃ m,v=.int q m∧q.min≤m∧m≤q.max
  | .bool,v=>∃ b,v=.bool b
  | .string,v=>∃ s:ByteArray,v=.string s∧s.size≤maxLen
def Leaf.like:Leaf→Value→Prop
  | .int q,v=>∃ m,v=.int q m
  | .bool,v=>∃ b,v=.bool b
  | .string,v=>∃ s:ByteArray,v=.string s
def Leafs:List Leaf→List Value→Prop
  | [],[]=>True
  | k::ks,v::vs=>k.is v∧Leafs ks vs
  | _,_=>False
def Likes:List Leaf→List Value→Prop
  | [],[]=>True
  | k::ks,v::vs=>k.like v∧Likes ks vs
  | _,_=>False
theorem leafs_cons {k:Leaf} {ks:List Leaf} {cs:List Value} (h:Leafs (k::ks) cs):∃ v vs,cs=v::vs∧k.is v∧Leafs ks vs:=by
  cases cs with
  | nil=>exact h.elim
  | cons v vs=>exact ⟨v,vs,rfl,h.1,h.2⟩
theorem leafs_nil {cs:List Value} (h:Leafs [] cs):cs=[]:=by
  cases cs with
  | nil=>rfl
  | cons v vs=>exact h.elim
theorem leafs_append:∀ {ks ls:List Leaf} {xs ys:List Value},Leafs ks xs→Leafs ls ys→Leafs (ks++ls) (xs++ys)
  | [],ls,[],ys,_,h=>h
  | k::ks,ls,x::xs,ys,h,h'=>⟨h.1,leafs_append h.2 h'⟩
  | [],_,_::_,_,h,_=>h.elim
  | _::_,_,[],_,h,_=>h.elim
theorem likes_append:∀ {ks ls:List Leaf} {zs:List Value},Likes (ks++ls) zs→∃ xs ys,zs=xs++ys∧Likes ks xs∧Likes ls ys
  | [],ls,zs,h=>⟨[],zs,rfl,trivial,h⟩
  | k::ks,ls,[],h=>h.elim
  | k::ks,ls,z::zs,h=>by
    obtain ⟨xs,ys,rfl,h1,h2⟩:=likes_append (ks:=ks) h.2
    exact ⟨z::xs,ys,rfl,⟨h.1,h1⟩,h2⟩
theorem likes_length:∀ {ks:List Leaf} {xs:List Value},Likes ks xs→xs.length=ks.length
  | [],[],_=>rfl
  | k::ks,x::xs,h=>congrArg (·+1) (likes_length h.2)
  | [],_::_,h=>h.elim
  | _::_,[],h=>h.elim
inductive FlatFs (P:Program) (F:TypeId→List Leaf→Prop):List Field→Nat→List Leaf→Prop
  | nil {off:Nat}:FlatFs P F [] off []
  | cons {f:Field} {fs:List Field} {off:Nat} {ks ls:List Leaf} (hn:f.name≠"_") (ho:f.offset=off) (hc:P.cellsOf f.type=ks.length) (h:F f.type ks) (hs:FlatFs P F fs (off+ks.length) ls):FlatFs P F (f::fs) off (ks++ls)
def Leaf.desc:Leaf→TypeDesc
  | .int q=>.int q
  | .bool=>.bool
  | .string=>.string
def Flat (P:Program):Nat→TypeId→List Leaf→Prop
  | 0,t,ks=>∃ (k:Leaf) (s by_:Nat) (z:Value),ks=[k]∧Ty P t k.desc s z by_
  | n+1,t,ks=>(∃ (k:Leaf) (s by_:Nat) (z:Value),ks=[k]∧Ty P t k.desc s z by_) ∨
    (∃ (s by_:Nat) (z:Value) (fs:Array Field),Ty P t (.struct fs) s z by_∧P.stoodInHeld t=false∧P.cellsOf t=ks.length∧FlatFs P (Flat P n) fs.toList 0 ks) ∨
    (∃ (m:Nat) (e:TypeId) (s by_:Nat) (z:Value) (ls:List Leaf),ks=(List.replicate m ls).flatten∧Ty P t (.array m e) s z by_∧P.cellsOf e=ls.length∧P.cellsOf t=ks.length∧Flat P n e ls)
theorem Flat.leaf {P:Program} {n:Nat} {t:TypeId} {s by_:Nat} {z:Value} {k:Leaf} (ht:Ty P t k.desc s z by_):Flat P n t [k]:=by
  cases n with
  | zero=>exact ⟨k,s,by_,z,rfl,ht⟩
  | succ n=>exact .inl ⟨k,s,by_,z,rfl,ht⟩
theorem Flat.struct {P:Program} {n:Nat} {t:TypeId} {s by_:Nat} {z:Value} {fs:Array Field} {ks:List Leaf} (ht:Ty P t (.struct fs) s z by_) (hp:P.stoodInHeld t=false) (hc:P.cellsOf t=ks.length) (h:FlatFs P (Flat P n) fs.toList 0 ks):Flat P (n+1) t ks :=
  .inr (.inl ⟨s,by_,z,fs,ht,hp,hc,h⟩)
section
variable {P:Program} {H:Type} {enc:TypeId × Value→H} {w:World} {base:Nat} {spare:Nat→Bool} {held:Bool}
theorem wf_bd {q:IntKind} {m:Int} (h:(Lit.int q m).wf=true):q.min≤m∧m≤q.max:=by
  simpa [Lit.wf] using h
theorem leaf_read {k:Leaf} {t:TypeId} {s by_:Nat} {z:Value} (ht:Ty P t k.desc s z by_) {fuel:Nat} {cs:List Value} {x:DataW H × List MemPlace} (hx:DataW.trod enc P w base spare held fuel t cs=some x):Leafs [k] cs:=by
  cases k with
  | int q=>obtain ⟨m,rfl,_,hw⟩:=DataW.trod_int ht.und hx; exact ⟨⟨m,rfl,wf_bd hw⟩,trivial⟩
  | bool=>obtain ⟨b,rfl,_⟩:=DataW.trod_bool ht.und hx; exact ⟨⟨b,rfl⟩,trivial⟩
  | string=>obtain ⟨s,rfl,_,h⟩:=DataW.trod_string ht.und hx; exact ⟨⟨s,rfl,h⟩,trivial⟩
theorem flat_read:∀ (n:Nat) {t:TypeId} {ks:List Leaf},Flat P n t ks→∀ {fuel:Nat} {cs:List Value} {x:DataW H × List MemPlace},DataW.trod enc P w base spare held fuel t cs=some x→Leafs ks cs:=by
  intro n
  induction n with
  | zero =>
    intro t ks hf fuel cs x hx
    obtain ⟨k,s,by_,z,rfl,ht⟩:=hf
    exact leaf_read ht hx
  | succ n ih =>
    intro t ks hf fuel cs x hx
    rcases hf with ⟨k,s,by_,z,rfl,ht⟩ | ⟨s,by_,z,fs,ht,hp,hc,h⟩ | ⟨m,e,s,by_,z,ls,rfl,ht,hce,hc,h⟩
    · exact leaf_read ht hx
    · obtain ⟨xs,m,_,_,hl,hlen,hfs⟩:=DataW.trod_struct ht.und hx
      have key:∀ (l:List Field) (off:Nat) (ls:List Leaf),FlatFs P (Flat P n) l off ls→(∀ f∈l,∃ y,DataW.trod enc P w base spare held m f.type ((cs.drop f.offset).take (P.cellsOf f.type))=some y)→off+ls.length=cs.length→Leafs ls (cs.drop off):=by
        intro l off ls hl
        induction hl with
        | @nil off=>intro _ he; rw [List.drop_of_length_le (by simp at he; omega)]; trivial
        | @cons f fs off ks ls hn ho hcf hF hs ih2 =>
          intro hall he
          subst ho
          obtain ⟨y,hy⟩:=hall f List.mem_cons_self
          have h1:=ih hF hy
          have h2:=ih2 (fun g hg=>hall g (List.mem_cons_of_mem _ hg)) (by rw [List.length_append] at he; omega)
          have h3:=leafs_append h1 h2
          rw [hcf,← List.drop_drop,List.take_append_drop] at h3
          exact h3
      have:=key fs.toList 0 ks h (fun f hf=>by
        obtain ⟨i,hi,rfl⟩:=List.getElem_of_mem hf
        have h1:=hfs i fs.toList[i] (by simp [Array.getElem?_eq_getElem (show i<fs.size by simpa using hi)])
        exact ⟨xs[i]'(by rw [hlen]; simpa using hi),by rw [h1,List.getElem?_eq_getElem]⟩) (by rw [hl,hc]; simp)
      simpa using this
    · obtain ⟨xs,d,_,_,hl,hlen,hxs⟩:=DataW.trod_array ht.und hx
      have key:∀ (r j:Nat),j+r=m→Leafs (List.replicate r ls).flatten (cs.drop (j*ls.length)):=by
        intro r
        induction r with
        | zero =>
          intro j hj
          obtain rfl:j=m:=by omega
          rw [List.drop_of_length_le (by rw [hl,hc]; simp)]; trivial
        | succ r ihr =>
          intro j hj
          have h1:=hxs j (by omega)
          rw [List.getElem?_eq_getElem (by omega)] at h1
          have h2:=ih h h1
          have h3:=leafs_append h2 (ihr (j+1) (by omega))
          rw [hce,Nat.add_mul,Nat.one_mul,← List.drop_drop,List.take_append_drop] at h3
          exact h3
      have:=key m 0 (by omega)
      simpa using this
theorem flat_rows {α:Type} [Inhabited α] {f:α→List Value} {ok:α→Prop} {n:Nat} {t e:TypeId} {ks:List Leaf} (ht:P.underlying t=some (.slice e)) (hF:Flat P n e ks) (hce:P.cellsOf e=ks.length) (hpos:0<ks.length)
    (hof:∀ cs,Leafs ks cs→∃ y:α,cs=f y∧ok y) (hlen:∀ y,(f y).length=ks.length) {fuel len cap:Nat} {a:Option Addr} {x:DataW H × List MemPlace}
    (hf:DataW.trod enc P w base spare held fuel t (Value.slice a len cap).cells.toList=some x) :
    ∃ l:List α,len=l.length∧l.length≤cap∧cap≤maxLen∧(∀ y∈l,ok y)∧InRow w a (l.flatMap f):=by
  rcases Go.Deep.open_slice ht hf with ⟨hcs,_⟩ | ⟨a',len',cap',m,n',D,Pl,hcs,_,hle,hmax,hm,_,hel⟩
  · simp [Value.cells] at hcs
    obtain ⟨rfl,rfl,rfl⟩:=hcs
    exact ⟨[],rfl,Nat.le_refl _,Nat.zero_le _,fun x hx=>(by simp at hx),InRow.nil⟩
  · simp [Value.cells] at hcs
    obtain ⟨rfl,rfl,rfl⟩:=hcs
    have hlm:len≤m:=by rw [hm]; split <;> omega
    have hall:∀ i,i<len→∃ y:α,w.cells? base (a'.add (i*ks.length)) ks.length=some (f y)∧ok y:=fun i hi=>by
      obtain ⟨cs,h1,h2⟩:=hel i (by omega)
      rw [hce] at h1
      obtain ⟨y,rfl,hy⟩:=hof _ (flat_read n hF h2)
      exact ⟨y,h1,hy⟩
    obtain ⟨Y,hY⟩:=Go.Deep.choose_lt hall
    refine ⟨(List.range len).map Y,by simp,by simpa using hle,hmax,fun x hx=>?_,InRow.of_spot fun j v hj=>?_⟩
    · obtain ⟨i,hi,rfl⟩:=List.mem_map.1 hx
      exact (hY i (List.mem_range.1 hi)).2
    · have hjl:j<len*ks.length:=by
        have:=(List.getElem?_eq_some_iff.1 hj).1
        rw [flat_length hlen] at this
        simpa using this
      have hi:j/ks.length<len:=Nat.div_lt_of_lt_mul (by rw [Nat.mul_comm]; exact hjl)
      have hc:=(hY (j/ks.length) hi).1
      obtain ⟨_,_,hcell⟩:=World.cells?_some hc
      have hmod:j%ks.length<ks.length:=Nat.mod_lt _ hpos
      have h1:=hcell (j%ks.length) hmod
      have hk:j%ks.length<(f (Y (j/ks.length))).length:=by rw [hlen]; exact hmod
      have h2:=flat_at (l:=(List.range len).map Y) hlen (i:=j/ks.length) (x:=Y (j/ks.length)) (by simp [hi]) (j%ks.length) _ (List.getElem?_eq_getElem hk)
      have hdm:j/ks.length*ks.length+j%ks.length=j:=by rw [Nat.mul_comm]; exact Nat.div_add_mod j ks.length
      rw [hdm] at h2
      rw [hj] at h2
      have aa:∀ (a:Addr) (m n:Nat),(a.add m).add n=a.add (m+n):=fun a m n=>by
        unfold Addr.add
        by_cases hm:m=0
        · subst hm; simp
        · by_cases hn:n=0
          · subst hn; simp [hm]
          · have h:m+n≠0:=by omega
            simp [hm,hn,Nat.add_assoc]
      rw [Option.some.inj h2,← List.getElem?_eq_getElem hk,← h1,aa,hdm]
end
end Go.Sl
namespace Go.Sl
open Go.RowKit
def aggB (P:Program) (t:TypeId):Bool :=
  match P.underlying t with
  | some (.struct _) | some (.array _ _)=>true
  | _=>false
def valOf (P:Program) (t:TypeId) (xs:List Value):Value:=if aggB P t then .agg xs.toArray else xs.headD undef
section
variable {P:Program}
theorem leaf_aggB {t:TypeId} {s by_:Nat} {z:Value} {k:Leaf} (ht:Ty P t k.desc s z by_):aggB P t=false:=by
  cases k <;> simp [aggB,ht.und,Leaf.desc]
theorem leaf_eq {t:TypeId} {s by_:Nat} {z:Value} {k:Leaf} (ht:Ty P t k.desc s z by_) {xs ys:List Value} (hx:Likes [k] xs) (hy:Likes [k] ys) :
    ∃ r:Bool,(r=true↔xs=ys)∧∀ d w,(Op.equalIn (d+1) t (valOf P t xs) (valOf P t ys)).run P w=.ok r w:=by
  have e1:∀ zs:List Value,Likes [k] zs→∃ v,zs=[v]∧k.like v:=fun zs h=>by
    match zs,h with
    | [v],h=>exact ⟨v,rfl,h.1⟩
  obtain ⟨a,rfl,ha⟩:=e1 xs hx
  obtain ⟨b,rfl,hb⟩:=e1 ys hy
  simp only [valOf,leaf_aggB ht,Bool.false_eq_true,if_false,List.headD_cons]
  cases k with
  | int q =>
    obtain ⟨m,rfl⟩:=ha
    obtain ⟨m',rfl⟩:=hb
    exact ⟨decide (m=m'),by simp,fun d w=>eqv_int ht d w⟩
  | bool =>
    obtain ⟨m,rfl⟩:=ha
    obtain ⟨m',rfl⟩:=hb
    exact ⟨m == m',by simp,fun d w=>eqv_bool ht d w⟩
  | string =>
    obtain ⟨m,rfl⟩:=ha
    obtain ⟨m',rfl⟩:=hb
    refine ⟨m.toList == m'.toList,?_,fun d w=>eqv_string ht d w⟩
    rw [beq_iff_eq,ByteArray.toList_eq,ByteArray.toList_eq]
    obtain ⟨⟨l⟩⟩:=m
    obtain ⟨⟨l'⟩⟩:=m'
    simp
theorem run_isAgg_of {t:TypeId} {d:TypeDesc} (hu:P.underlying t=some d) (w:World):(isAgg t).run P w=.ok (aggB P t) w:=by
  cases d <;> simp [isAgg,run_underlying hu,aggB,hu,Result.andThen]
theorem run_part {n:Nat} {t:TypeId} {ks:List Leaf} (hF:Flat P n t ks) (hc:P.cellsOf t=ks.length) (XS:Array Value) (off:Nat) (hl:Likes ks ((XS.toList.drop off).take ks.length)) (w:World) :
    (part t XS off).run P w=.ok (valOf P t ((XS.toList.drop off).take ks.length)) w:=by
  have leaf:∀ (k:Leaf) (s by_:Nat) (z:Value),ks=[k]→Ty P t k.desc s z by_→(part t XS off).run P w=.ok (valOf P t ((XS.toList.drop off).take ks.length)) w:=fun k s by_ z e ht=>by
    subst e
    have h1:∃ v,(XS.toList.drop off).take 1=[v]:=by
      have hl':Likes [k] ((XS.toList.drop off).take 1):=hl
      generalize (XS.toList.drop off).take 1=zs at hl'
      match zs,hl' with
      | [v],_=>exact ⟨v,rfl⟩
    obtain ⟨v,hv⟩:=h1
    have hg:=getElem?_of_chunk hv
    simp only [List.length_cons,List.length_nil,Nat.zero_add,hv,valOf,leaf_aggB ht,Bool.false_eq_true,if_false,List.headD_cons]
    simp [part,run_isAgg_of ht.und,leaf_aggB ht,hg,Result.andThen]
  have agg:∀ (d:TypeDesc) (s by_:Nat) (z:Value),Ty P t d s z by_→aggB P t=true→(part t XS off).run P w=.ok (valOf P t ((XS.toList.drop off).take ks.length)) w:=fun d s by_ z ht ha=>by
    obtain ⟨i,hi,_⟩:=ht.info
    simp only [valOf,ha,if_true]
    have e:XS.extract off (off+P.cellsOf t)=((XS.toList.drop off).take ks.length).toArray:=by
      rw [← hc]
      apply Array.ext'
      simp
    simp [part,run_isAgg_of ht.und,ha,run_sizeOf w hi,e,Result.andThen]
  cases n with
  | zero=>obtain ⟨k,s,by_,z,e,ht⟩:=hF; exact leaf k s by_ z e ht
  | succ n =>
    rcases hF with ⟨k,s,by_,z,e,ht⟩ | ⟨s,by_,z,fs,ht,_,_,_⟩ | ⟨m,e,s,by_,z,ls,_,ht,_,_,_⟩
    · exact leaf k s by_ z e ht
    · exact agg _ s by_ z ht (by simp [aggB,ht.und])
    · exact agg _ s by_ z ht (by simp [aggB,ht.und])
theorem likes_split {ks ls:List Leaf} {zs:List Value} (h:Likes (ks++ls) zs):Likes ks (zs.take ks.length)∧Likes ls (zs.drop ks.length):=by
  obtain ⟨xs,ys,rfl,h1,h2⟩:=likes_append h
  have:=likes_length h1
  rw [← this,List.take_left,List.drop_left]
  exact ⟨h1,h2⟩
theorem flat_eq:∀ (n:Nat) {t:TypeId} {ks:List Leaf},Flat P n t ks→∀ {xs ys:List Value},Likes ks xs→Likes ks ys →
    ∃ r:Bool,(r=true↔xs=ys)∧∀ d w,(Op.equalIn (d+n+1) t (valOf P t xs) (valOf P t ys)).run P w=.ok r w:=by
  intro n
  induction n with
  | zero =>
    intro t ks hf xs ys hx hy
    obtain ⟨k,s,by_,z,rfl,ht⟩:=hf
    exact leaf_eq ht hx hy
  | succ n ih =>
    intro t ks hf xs ys hx hy
    rcases hf with ⟨k,s,by_,z,rfl,ht⟩ | ⟨s,by_,z,fs,ht,hp,hc,h⟩ | ⟨m,e,s,by_,z,ls,rfl,ht,hce,hc,h⟩
    · obtain ⟨r,h1,h2⟩:=leaf_eq ht hx hy
      exact ⟨r,h1,fun d w=>h2 _ w⟩
    · have key:∀ (l:List Field) (off:Nat) (ls:List Leaf),FlatFs P (Flat P n) l off ls→Likes ls (xs.drop off)→Likes ls (ys.drop off) →
          ∃ r:Bool,(r=true↔xs.drop off=ys.drop off)∧∀ d w,(Op.eqFields (d+n+1) xs.toArray ys.toArray l).run P w=.ok r w:=by
        intro l off ls hl
        induction hl with
        | @nil off =>
          intro h1 h2
          refine ⟨true,?_,fun d w=>by simp [Op.eqFields]⟩
          have e:∀ zs:List Value,Likes [] zs→zs=[]:=fun zs h=>by cases zs with
            | nil=>rfl
            | cons _ _=>exact h.elim
          rw [e _ h1,e _ h2]; simp
        | @cons f fs off ks ls hn ho hcf hF hs ih2 =>
          intro h1 h2
          subst ho
          obtain ⟨a1,a2⟩:=likes_split h1
          obtain ⟨b1,b2⟩:=likes_split h2
          rw [List.drop_drop] at a2 b2
          obtain ⟨r,hr,hrun⟩:=ih hF a1 b1
          obtain ⟨r',hr',hrun'⟩:=ih2 a2 b2
          refine ⟨r && r',?_,fun d w=>?_⟩
          · rw [Bool.and_eq_true,hr,hr']
            constructor
            · rintro ⟨e1,e2⟩
              rw [← List.take_append_drop ks.length (xs.drop f.offset),← List.take_append_drop ks.length (ys.drop f.offset),e1,List.drop_drop,List.drop_drop,e2]
            · intro e
              exact ⟨by rw [e],by rw [← List.drop_drop,← List.drop_drop,e]⟩
          · have p1:=run_part hF hcf xs.toArray f.offset (by simpa using a1) w
            have p2:=run_part hF hcf ys.toArray f.offset (by simpa using b1) w
            simp only [List.toList_toArray] at p1 p2
            simp only [Op.eqFields,if_pos hn,Sem.run_bind,p1,p2,hrun d w,Result.andThen_ok]
            cases r with
            | true=>simpa using hrun' d w
            | false=>simp
      obtain ⟨r,hr,hrun⟩:=key fs.toList 0 ks h (by simpa using hx) (by simpa using hy)
      refine ⟨r,by simpa using hr,fun d w=>?_⟩
      have hfs:P.fieldsOf t=fs:=by simp [Program.fieldsOf,ht.und]
      have ha:aggB P t=true:=by simp [aggB,ht.und]
      simp only [valOf,ha,if_true]
      rw [run_equalIn_struct w (d+(n+1)) t _ _ (by rw [hfs]; exact ht.und) hp,hfs]
      exact hrun d w
    · have key:∀ (r j:Nat),j+r=m→Likes (List.replicate r ls).flatten (xs.drop (j*ls.length))→Likes (List.replicate r ls).flatten (ys.drop (j*ls.length)) →
          ∃ q:Bool,(q=true↔xs.drop (j*ls.length)=ys.drop (j*ls.length))∧∀ d w,(Op.eqItems (d+n+1) e ls.length xs.toArray ys.toArray (List.range' j r)).run P w=.ok q w:=by
        intro r
        induction r with
        | zero =>
          intro j hj h1 h2
          refine ⟨true,?_,fun d w=>by simp [Op.eqItems]⟩
          have e:∀ zs:List Value,Likes [] zs→zs=[]:=fun zs h=>by cases zs with
            | nil=>rfl
            | cons _ _=>exact h.elim
          simp only [List.replicate_zero,List.flatten_nil] at h1 h2
          rw [e _ h1,e _ h2]; simp
        | succ r ihr =>
          intro j hj h1 h2
          rw [List.replicate_succ,List.flatten_cons] at h1 h2
          obtain ⟨a1,a2⟩:=likes_split h1
          obtain ⟨b1,b2⟩:=likes_split h2
          have ej:(j+1)*ls.length=j*ls.length+ls.length:=by rw [Nat.add_mul,Nat.one_mul]
          rw [List.drop_drop,← ej] at a2 b2
          obtain ⟨q,hq,hrun⟩:=ih h a1 b1
          obtain ⟨q',hq',hrun'⟩:=ihr (j+1) (by omega) a2 b2
          refine ⟨q && q',?_,fun d w=>?_⟩
          · rw [Bool.and_eq_true,hq,hq']
            constructor
            · rintro ⟨e1,e2⟩
              rw [← List.take_append_drop ls.length (xs.drop (j*ls.length)),← List.take_append_drop ls.length (ys.drop (j*ls.length)),e1,List.drop_drop,List.drop_drop,← ej,e2]
            · intro e
              exact ⟨by rw [e],by rw [ej,← List.drop_drop,← List.drop_drop,e]⟩
          · have p1:=run_part h hce xs.toArray (j*ls.length) (by simpa using a1) w
            have p2:=run_part h hce ys.toArray (j*ls.length) (by simpa using b1) w
            simp only [List.toList_toArray] at p1 p2
            simp only [List.range'_succ,Op.eqItems,Sem.run_bind,p1,p2,hrun d w,Result.andThen_ok]
            cases q with
            | true=>simpa using hrun' d w
            | false=>simp
      obtain ⟨q,hq,hrun⟩:=key m 0 (by omega) (by simpa using hx) (by simpa using hy)
      refine ⟨q,by simpa using hq,fun d w=>?_⟩
      have ha:aggB P t=true:=by simp [aggB,ht.und]
      simp only [valOf,ha,if_true]
      have hie:∃ i,P.info? e=some i:=by
        have:P.underlying e≠none:=by
          cases n with
          | zero=>obtain ⟨k,s,by_,z,_,ht⟩:=h; rw [ht.und]; simp
          | succ n =>
            rcases h with ⟨k,s,by_,z,_,ht⟩ | ⟨s,by_,z,fs,ht,_,_,_⟩ | ⟨m,e,s,by_,z,ls,_,ht,_,_,_⟩ <;> (rw [ht.und]; simp)
        cases hu:P.underlying e with
        | none=>exact absurd hu this
        | some d=>exact info_of_underlying hu
      obtain ⟨i,hi⟩:=hie
      rw [run_equalIn_array w (d+(n+1)) _ _ ht.und hi,hce,List.range_eq_range']
      exact hrun d w
end
section
variable {P:Program} {n:Nat} {env:Env} {x y:Operand} {t u ty:TypeId} {C:World→Prop}
theorem X_eqF {α:Type} [DecidableEq α] {f:α→List Value} {m:Nat} {ks:List Leaf} {a b:α} (hx:opv env x=some (.agg (f a).toArray)) (hy:opv env y=some (.agg (f b).toArray)) (hF:Flat P m t ks) (ha:aggB P t=true) (hl:∀ z,Likes ks (f z)) (hinj:∀ z z',f z=f z'→z=z') (hm:P.eqGuardType P.depth t=false) (hd:m≤9999) :
    Ex P n env C (.binOp .eql t x y u) ty (.bool (decide (a=b))):=fun a' w d pos aft g ha' _=>by
  obtain ⟨r,hr,hrun⟩:=flat_eq m hF (hl a) (hl b)
  have h1:=hrun (9999-m) w
  rw [show 9999-m+m+1=10000 by omega] at h1
  simp only [valOf,ha,if_true] at h1
  have e:r=decide (a=b):=by
    rw [Bool.eq_iff_iff,hr,decide_eq_true_eq]
    exact ⟨hinj _ _,fun e=>by rw [e]⟩
  subst e
  simp [execOp,ha'.opv hx,ha'.opv hy,run_eqGuard_agg w .eql t x y _ _ hm,run_eql_struct,h1,Result.andThen]
theorem X_neF {α:Type} [DecidableEq α] {f:α→List Value} {m:Nat} {ks:List Leaf} {a b:α} (hx:opv env x=some (.agg (f a).toArray)) (hy:opv env y=some (.agg (f b).toArray)) (hF:Flat P m t ks) (ha:aggB P t=true) (hl:∀ z,Likes ks (f z)) (hinj:∀ z z',f z=f z'→z=z') (hm:P.eqGuardType P.depth t=false) (hd:m≤9999) :
    Ex P n env C (.binOp .neq t x y u) ty (.bool (!decide (a=b))):=fun a' w d pos aft g ha' _=>by
  obtain ⟨r,hr,hrun⟩:=flat_eq m hF (hl a) (hl b)
  have h1:=hrun (9999-m) w
  rw [show 9999-m+m+1=10000 by omega] at h1
  simp only [valOf,ha,if_true] at h1
  have e:r=decide (a=b):=by
    rw [Bool.eq_iff_iff,hr,decide_eq_true_eq]
    exact ⟨hinj _ _,fun e=>by rw [e]⟩
  subst e
  simp [execOp,ha'.opv hx,ha'.opv hy,run_eqGuard_agg w .neq t x y _ _ hm,run_neq_struct,h1,Result.andThen]
end
end Go.Sl
namespace Go.Sl
open Go.RowKit
section
variable {P:Program} {ops:Array Oper} {C:World→Prop} {Q:Exit→Act→World→Prop}
def TakesG (P:Program) (ops:Array Oper) (C:World→Prop) (o:Oper) (v:Value) (a:Act):Prop :=
  TakesC P ops C o v a∨(Region.wanted o (yielded ops a.tmps)=false∧v=undef)
theorem TakesG.pass {o o':Oper} {v:Value} {a a':Act} (h:TakesG P ops C o v a) (hs:PassC P ops o o' a a'):TakesG P ops C o v a' :=
  h.imp (·.pass hs) fun h=>⟨hs.wanted.trans h.1,h.2⟩
theorem TakesG.op {i:Nat} {o:Oper} {v:Value} {a:Act} {w:World} {K:Act→World→Prop} (hi:ops[i]?=some o) (hy:TakesG P ops C o v a) (hw:C w) (h:K (a.put o.dst v) w):wpOpIn (fen none) 0 P ops Q i K a w:=by
  rcases hy with hy | ⟨hy,rfl⟩
  · exact hy.op hi hw h
  · unfold Go.wpOpIn
    simp only [hi,hy,Bool.false_eq_true,if_false]
    exact ⟨fun _ _=>trivial,h⟩
theorem anyG_first {i:Nat} {oi:Oper} {v:Value} (hi:ops[i]?=some oi) (hsel:∀ (j:Nat) (o:Oper) cs b,ops[j]?=some o→o.op≠.select cs b) (hQ:∀ c a w,Q (.panic c) (a.put oi.dst v) w→Q (.panic c) a w) :
    ∀ (f:Nat) (l:Array Bool) (a:Act) (w:World),
      (∀ j oj,ops[j]?=some oj→j≠i→l.getD j true=false→(∀ e∈oj.after,Region.binds .any e=true→e.on≠i)→oi.apart ops oj=true) →
      i∈Region.ready .any ops l→TakesG P ops C oi v a→anyC P ops C Q f (l.setIfInBounds i true) (a.put oi.dst v) w→anyC P ops C Q (f+1) l a w:=by
  intro f
  induction f with
  | zero =>
    intro l a w _ hr hy H
    refine ⟨H.1,fun h=>(by rw [h] at hr; cases hr),fun j hj=>?_⟩
    by_cases hji:j=i
    · subst hji; exact hy.op hi H.1 H
    · have:=ready_mono hj hji
      rw [H.2.1] at this
      cases this
  | succ f ih =>
    intro l a w hfree hr hy H
    refine ⟨H.1,fun h=>(by rw [h] at hr; cases hr),fun j hj=>?_⟩
    by_cases hji:j=i
    · subst hji; exact hy.op hi H.1 H
    · have h1:=H.2.2 j (ready_mono hj hji)
      obtain ⟨hjun,oj,hoj,hall⟩:=mem_ready.1 hj
      have hnot:∀ e∈oj.after,Region.binds .any e=true→e.on≠i:=fun e he hb heq=>by
        have h1:=hall e he hb
        have h0:=(mem_ready.1 hr).1
        rw [heq] at h1
        rcases Nat.lt_or_ge i l.size with h' | h'
        · simp [h'] at h0 h1; rw [h0] at h1; cases h1
        · simp [Array.getElem?_eq_none h'] at h1
      have h2:=op_putC hoj (hfree j oj hoj hji hjun hnot) (fun cs b=>hsel i oi cs b hi) (fun cs b=>hsel j oj cs b hoj) hQ h1
      have hfree':∀ k ok,ops[k]?=some ok→k≠i→(l.setIfInBounds j true).getD k true=false →
          (∀ e∈ok.after,Region.binds .any e=true→e.on≠i)→oi.apart ops ok=true:=fun k ok hk hki hun hno=>by
        refine hfree k ok hk hki ?_ hno
        by_cases hjk:j=k
        · subst hjk; exact hjun
        · rw [getD_set_ne true hjk] at hun; exact hun
      refine wpOpIn_mono (fun a' w' h3=>ih (l.setIfInBounds j true) a' w' hfree' (ready_mono hr (Ne.symm hji)) (hy.pass h3.1) ?_) h2
      rw [Array.setIfInBounds_comm _ _ hji]
      exact h3.2
end
section
variable {P:Program} {w0:World} {Q:Exit→Act→World→Prop} {n:Nat} {ds:List Deferred} {k:List It} {env env':Env} {H H' Hc:Heap} {ops:Array Oper}
theorem WC_gyes (i:Nat) {op:Op} {ty:TypeId} {v:Value} {d j dj:Nat} {b:Bool} {pos:String} {aft:Array Edge} {fuel:Nat} {listed l':Array Bool} (hi:ops[i]?=some ⟨some d,op,ty,pos,aft,some (j,b)⟩) (hs:Region.noSelect ops=true) (hf:Region.free .any ops listed i=true) (hr:(Region.ready .any ops listed).contains i=true)
    (hcall:NoCall op=true) (hl:listed.setIfInBounds i true=l') (hj:(ops[j]?).bind (·.dst)=some dj) (ht:look env dj=some (.bool b)) (hx:Ex P n env (Sat w0 Hc) op ty v) (hd:Nat.blt d n=true)
    (h:WC P w0 Q n ds k ops Hc fuel l' ((d,v)::env) H):WC P w0 Q n ds k ops Hc (fuel+1) listed env H:=fun a w ha hds hsat=>by
  subst hl
  have hy:=ha.yielded hj ht
  exact anyG_first hi (Region.noSelect_spec hs) (fun _ _ _ hq=>hq.elim) fuel listed a w (Region.free_spec hi hf) (by simpa using hr)
    (.inl ⟨by simp [Region.wanted,hy],fun w hw=>hx a w _ _ _ _ ha hw,fun w _=>about_nocall hcall w _⟩) (h _ w (ha.put (d:=some d) hd) hds hsat)
theorem WC_gno (i:Nat) {op:Op} {ty:TypeId} {d:Option Nat} {j dj:Nat} {b b':Bool} {pos:String} {aft:Array Edge} {fuel:Nat} {listed l':Array Bool} (hi:ops[i]?=some ⟨d,op,ty,pos,aft,some (j,b)⟩) (hs:Region.noSelect ops=true) (hf:Region.free .any ops listed i=true) (hr:(Region.ready .any ops listed).contains i=true)
    (hl:listed.setIfInBounds i true=l') (hj:(ops[j]?).bind (·.dst)=some dj) (ht:look env dj=some (.bool b')) (hb:(b' == b)=false) (hd:dok n d=true)
    (h:WC P w0 Q n ds k ops Hc fuel l' (put d undef env) H):WC P w0 Q n ds k ops Hc (fuel+1) listed env H:=fun a w ha hds hsat=>by
  subst hl
  have hy:=ha.yielded hj ht
  exact anyG_first hi (Region.noSelect_spec hs) (fun _ _ _ hq=>hq.elim) fuel listed a w (Region.free_spec hi hf) (by simpa using hr)
    (.inr ⟨by simp only [Region.wanted,hy]; simpa using hb,rfl⟩) (h _ w (ha.put hd) (by cases d <;> exact hds) hsat)
end
section
variable {P:Program} {w0:World} {Q:Exit→Act→World→Prop} {n:Nat} {ds:List Deferred} {k:List It} {env:Env} {H:Heap} {ops:Array Oper}
theorem WQ_gnou {d:Option Nat} {op:Op} {t:TypeId} {pos:String} {aft:Array Edge} {j:Nat} {b:Bool} {dj:Nat} {rest:List Oper} (hj:(ops[j]?).bind (·.dst)=some dj) (ht:look env dj=some undef) (hd:dok n d=true)
    (h:WQ P w0 Q n ds k ops rest (put d undef env) H):WQ P w0 Q n ds k ops (⟨d,op,t,pos,aft,some (j,b)⟩::rest) env H:=fun a ha hds=>by
  refine ⟨fun _ _ _ _=>trivial,?_⟩
  have hy:=yielded_undef ha hj ht
  rw [if_neg (by simp [Region.wanted,hy])]
  exact h _ (ha.put hd) (by cases d <;> exact hds)
end
end Go.Sl
namespace Go.Sl
open Go.RowKit
open Go.ChangeMaps (setBlock)
structure KeyKind (P:Program) (K:TypeId) {α:Type} [DecidableEq α] (kf:α→Value):Prop where
  check:∀ (b:Bool) (a:α) (w:World),(Instr.checkKey b 10000 K (kf a)).run P w=.ok () w
  same:∃ d,P.underlying K=some d∧∀ a a',Instr.sameNow d (kf a) (kf a')=some (decide (a=a'))
  stays:∀ (a:α) (w:World),(Instr.keyThatStays (kf a) (kf a)).run P w=.ok (kf a) w
theorem intKeys {P:Program} {K:TypeId} {q:IntKind} (h:P.underlying K=some (.int q)):KeyKind P K (Value.int q) where
  check b a w:=MapKept.run_checkKey (d:=.int q) h (show MapKept.IsKey (.int q) (.int q a) from rfl) b 9999
  same:=⟨_,h,fun a a'=>by simp [Instr.sameNow,Bool.beq_eq_decide_eq]⟩
  stays a w:=by simp [Instr.keyThatStays,Instr.sameBits]
section
variable {α:Type} [DecidableEq α]
abbrev Ents (α:Type):=List (α × Value × Nat)
def entO (kf:α→Value) (p:α × Value × Nat):MapEntry:=⟨kf p.1,p.2.1,p.2.2⟩
def mapO (kf:α→Value) (l:Ents α) (c:Nat):Obj:=.map (l.map (entO kf)).toArray c
structure MapOk (l:Ents α) (c:Nat):Prop where
  keys:(l.map (·.1)).Nodup
  born:(l.map (·.2.2)).Nodup
  lt:∀ p∈l,p.2.2<c
def mIdx (l:Ents α) (a:α):Option Nat:=l.findIdx? (fun p=>decide (a=p.1))
def mGet (l:Ents α) (a:α):Option Value:=(l.find? (fun p=>decide (a=p.1))).map (·.2.1)
def mHas (l:Ents α) (a:α):Bool:=l.any (fun p=>decide (a=p.1))
def mPut (l:Ents α) (c:Nat) (a:α) (v:Value):Ents α:=if mHas l a then l.map (fun p=>if a=p.1 then (p.1,v,p.2.2) else p) else l++[(a,v,c)]
def mClk (l:Ents α) (c:Nat) (a:α):Nat:=if mHas l a then c else c+1
def mDel (l:Ents α) (a:α):Ents α:=l.filter (fun p=>decide (a≠p.1))
theorem MapOk.nil (c:Nat):MapOk ([]:Ents α) c:=⟨List.nodup_nil,List.nodup_nil,fun _ h=>by cases h⟩
theorem mHas_iff {l:Ents α} {a:α}:mHas l a=true↔a∈l.map (·.1):=by
  unfold mHas
  rw [List.any_eq_true,List.mem_map]
  exact ⟨fun ⟨p,hp,h⟩=>⟨p,hp,(of_decide_eq_true h).symm⟩,fun ⟨p,hp,h⟩=>⟨p,hp,decide_eq_true h.symm⟩⟩
theorem MapOk.put {l:Ents α} {c:Nat} (h:MapOk l c) (a:α) (v:Value):MapOk (mPut l c a v) (mClk l c a):=by
  unfold mPut mClk
  cases hh:mHas l a with
  | true =>
    simp only [if_true]
    have e1:(l.map (fun p=>if a=p.1 then (p.1,v,p.2.2) else p)).map (·.1)=l.map (·.1):=by
      rw [List.map_map]; apply List.map_congr_left; intro p _; simp only [Function.comp]; split <;> rfl
    have e2:(l.map (fun p=>if a=p.1 then (p.1,v,p.2.2) else p)).map (·.2.2)=l.map (·.2.2):=by
      rw [List.map_map]; apply List.map_congr_left; intro p _; simp only [Function.comp]; split <;> rfl
    refine ⟨by rw [e1]; exact h.keys,by rw [e2]; exact h.born,fun p hp=>?_⟩
    obtain ⟨q,hq,rfl⟩:=List.mem_map.1 hp
    have:=h.lt q hq
    split <;> exact this
  | false =>
    simp only [Bool.false_eq_true,if_false]
    have hn:a ∉ l.map (·.1):=fun hm=>by rw [mHas_iff.2 hm] at hh; cases hh
    refine ⟨?_,?_,fun p hp=>?_⟩
    · rw [List.map_append]
      refine List.nodup_append.2 ⟨h.keys,by simp,fun x hx y hy=>?_⟩
      have hy':y=a:=by simpa using hy
      subst hy'
      exact fun e=>hn (e ▸ hx)
    · rw [List.map_append]
      refine List.nodup_append.2 ⟨h.born,by simp,fun x hx y hy=>?_⟩
      have hy':y=c:=by simpa using hy
      subst hy'
      obtain ⟨p,hp,rfl⟩:=List.mem_map.1 hx
      have:=h.lt p hp
      exact fun e=>by omega
    · rcases List.mem_append.1 hp with hp | hp
      · have:=h.lt p hp; omega
      · obtain rfl:p=(a,v,c):=by simpa using hp
        exact Nat.lt_succ_self c
theorem MapOk.del {l:Ents α} {c:Nat} (h:MapOk l c) (a:α):MapOk (mDel l a) c :=
  ⟨h.keys.sublist ((List.filter_sublist).map _),h.born.sublist ((List.filter_sublist).map _),fun p hp=>h.lt p (List.mem_filter.1 hp).1⟩
theorem find_now {d:TypeDesc} {kf:α→Value} (hs:∀ a a',Instr.sameNow d (kf a) (kf a')=some (decide (a=a'))) (a:α):∀ (l:Ents α) (i:Nat),
    Instr.findNow d (kf a) (l.map (entO kf)) i=some ((mIdx l a).map fun j=>(i+j,((l[j]?).map (·.2.1)).getD undef))
  | [],i=>by simp [Instr.findNow,mIdx]
  | p::l,i=>by
    simp only [List.map_cons,Instr.findNow,entO,hs]
    by_cases h:a=p.1
    · simp [h,mIdx,List.findIdx?_cons]
    · simp only [decide_eq_false h]
      rw [find_now hs a l (i+1)]
      simp only [mIdx,List.findIdx?_cons,decide_eq_false h,Bool.false_eq_true,if_false,Option.map_map]
      congr 2
      funext j
      simp only [Function.comp,List.getElem?_cons_succ]
      congr 1
      omega
theorem idx_some {l:Ents α} {a:α} {j:Nat} (h:mIdx l a=some j):∃ p,l[j]?=some p∧a=p.1∧l.find? (fun p=>decide (a=p.1))=some p:=by
  unfold mIdx at h
  obtain ⟨hj,h1,h2⟩:=List.findIdx?_eq_some_iff_getElem.1 h
  refine ⟨l[j],List.getElem?_eq_getElem hj,of_decide_eq_true h1,?_⟩
  rw [List.find?_eq_some_iff_getElem]
  exact ⟨h1,j,hj,rfl,fun i hi=>by simpa using h2 i hi⟩
theorem idx_none {l:Ents α} {a:α} (h:mIdx l a=none):mHas l a=false∧l.find? (fun p=>decide (a=p.1))=none:=by
  unfold mIdx at h
  rw [List.findIdx?_eq_none_iff] at h
  refine ⟨?_,List.find?_eq_none.2 fun p hp=>by simpa using h p hp⟩
  unfold mHas
  rw [List.any_eq_false]
  intro p hp
  simpa using h p hp
theorem has_idx {l:Ents α} {a:α} {j:Nat} (h:mIdx l a=some j):mHas l a=true:=by
  obtain ⟨p,hp,e,_⟩:=idx_some h
  exact mHas_iff.2 (e ▸ List.mem_map.2 ⟨p,List.mem_of_getElem? hp,rfl⟩)
theorem modify_ents {kf:α→Value} {v:Value} (a:α):∀ {l:Ents α} {j:Nat},(l.map (·.1)).Nodup→mIdx l a=some j →
    (l.map (entO kf)).modify j (fun e=>{ e with key:=kf a,val:=v })=(l.map (fun p=>if a=p.1 then (p.1,v,p.2.2) else p)).map (entO kf)
  | [],j,_,h=>by simp [mIdx] at h
  | p::l,j,hn,h=>by
    have hn':=List.nodup_cons.1 hn
    by_cases hp:a=p.1
    · have hj:j=0:=by simp [mIdx,List.findIdx?_cons,hp] at h; exact h.symm
      subst hj
      have ht:l.map (fun p=>if a=p.1 then (p.1,v,p.2.2) else p)=l:=by
        conv=>rhs; rw [← List.map_id l]
        apply List.map_congr_left
        intro q hq
        have hne:¬ a=q.1:=fun e=>hn'.1 (List.mem_map.2 ⟨q,hq,e.symm.trans hp⟩)
        simp [hne]
      simp only [List.map_cons,if_pos hp,ht,List.modify_zero_cons]
      rw [show entO kf (p.1,v,p.2.2)={ entO kf p with key:=kf a,val:=v } by simp [entO,hp]]
    · have h':∃ i,mIdx l a=some i∧j=i+1:=by
        unfold mIdx at h ⊢
        rw [List.findIdx?_cons,decide_eq_false hp] at h
        simp only [Bool.false_eq_true,if_false,Option.map_eq_some_iff] at h
        obtain ⟨i,hi,e⟩:=h
        exact ⟨i,hi,e.symm⟩
      obtain ⟨i,hi,rfl⟩:=h'
      simp only [List.map_cons,List.modify_succ_cons,if_neg hp]
      rw [modify_ents a hn'.2 hi]
theorem erase_ents {a:α}:∀ {l:Ents α} {j:Nat},(l.map (·.1)).Nodup→mIdx l a=some j→l.eraseIdx j=mDel l a
  | [],j,_,h=>by simp [mIdx] at h
  | p::l,j,hn,h=>by
    have hn':=List.nodup_cons.1 hn
    by_cases hp:a=p.1
    · have hj:j=0:=by simp [mIdx,List.findIdx?_cons,hp] at h; exact h.symm
      subst hj
      have ht:mDel l a=l:=by
        unfold mDel
        rw [List.filter_eq_self]
        intro q hq
        exact decide_eq_true fun e=>hn'.1 (List.mem_map.2 ⟨q,hq,e.symm.trans hp⟩)
      rw [List.eraseIdx_cons_zero]
      show l=(p::l).filter _
      rw [List.filter_cons_of_neg (by simp [hp])]
      exact ht.symm
    · have h':∃ i,mIdx l a=some i∧j=i+1:=by
        unfold mIdx at h ⊢
        rw [List.findIdx?_cons,decide_eq_false hp] at h
        simp only [Bool.false_eq_true,if_false,Option.map_eq_some_iff] at h
        obtain ⟨i,hi,e⟩:=h
        exact ⟨i,hi,e.symm⟩
      obtain ⟨i,hi,rfl⟩:=h'
      rw [List.eraseIdx_cons_succ,erase_ents hn'.2 hi]
      show _=(p::l).filter _
      rw [List.filter_cons_of_pos (by simpa using hp)]
      rfl
theorem del_none {l:Ents α} {a:α} (h:mHas l a=false):mDel l a=l:=by
  unfold mDel
  rw [List.filter_eq_self]
  intro q hq
  unfold mHas at h
  rw [List.any_eq_false] at h
  simpa using h q hq
end
section
variable {P:Program} {rd:Option Nat} {w0:World} {Q:Exit→Act→World→Prop} {n:Nat} {ds:List Deferred} {k:List It} {env env':Env} {H H':Heap} {all:Array Oper} {rest:List Oper}
variable {d:Nat} {x y z c:Operand} {t u ty K E:TypeId} {pos:String} {aft:Array Edge} {v:Value} {s by_:Nat} {tz:Value}
variable {α:Type} [DecidableEq α] {kf:α→Value} {l:Ents α} {cl b:Nat} {a:α}
theorem setBlock_below {w0 w:World} {r:Nat} {o:Obj} (h:w0.heap.size≤r):Below w0.heap.size w (setBlock w r o) :=
  ⟨rfl,rfl,rfl,by simp [setBlock],fun k hk=>by simp only [setBlock]; rw [Array.getElem?_setIfInBounds_ne (by omega)]⟩
theorem Sat.setO {w:World} {r:Nat} {o o':Obj} (hs:Sat w0 H w) (hu:Upd r (.obj o) (.obj o') H H'):Sat w0 H' (setBlock w r o'):=by
  obtain ⟨hb,hr⟩:=hs.own _ hu.mem
  have hr':w.heap[r]?=some o:=hr
  exact hs.upd hu (setBlock_below hb) (fun j hj _=>by simp only [setBlock]; rw [Array.getElem?_setIfInBounds_ne (Ne.symm hj)]) (by
    show (setBlock w r o').heap[r]?=some o'
    have hlt:r<w.heap.size:=(Array.getElem?_eq_some_iff.1 hr').1
    simp [setBlock,hlt])
theorem W_makeMap (hd:Nat.blt d n=true) (h:∀ b:Nat,W P rd w0 Q n ds (.ops all rest::k) ((d,.map (some b))::env) ((b,.obj (mapO kf [] 0))::H)) :
    W P rd w0 Q n ds (.ops all (⟨some d,.makeMap t none,ty,pos,aft,none⟩::rest)::k) env H :=
  W_gen rfl nofun hd fun a w ha hs=>⟨.map (some w.heap.size),(w.heap.size,.obj (mapO kf [] 0))::H,w.alloc (.map #[] 0),.inl (by simp [execOp,run_makeMap,Result.andThen]),hs.alloc _ (At.alloc_obj w _),h w.heap.size⟩
theorem run_lookup (hk:KeyKind P K kf) (ht:Ty P t (.map K E) s tz by_) {zE:Value} (hz:∀ w,(zeroValue E).run P w=.ok zE w) {w:World} (hb:w.heap[b]?=some (mapO kf l cl)) (ok:Bool) :
    (Instr.lookup t (.map (some b)) (kf a) ok).run P w=.ok (if ok then .tuple #[(mGet l a).getD zE,.bool (mHas l a)] else (mGet l a).getD zE) w:=by
  obtain ⟨dK,hu,hsame⟩:=hk.same
  have hf:=MapKept.run_findKey (P:=P) (w:=w) hu (find_now hsame a l 0)
  simp only [Instr.lookup,Sem.run_bind,ht.run,Result.andThen,MapKept.run_getObj_map hb,Sem.run_pure,hk.check,hf]
  cases hi:mIdx l a with
  | none =>
    obtain ⟨h1,h2⟩:=idx_none hi
    simp only [Option.map_none,Sem.run_bind,hz,Result.andThen,Sem.run_pure,mGet,h2,Option.getD_none,h1]
  | some j =>
    obtain ⟨p,hp,e,hfd⟩:=idx_some hi
    simp only [Option.map_some,hp,Option.getD_some,Sem.run_pure,Result.andThen,mGet,hfd,has_idx hi]
    cases ok <;> rfl
theorem X_lookup {ok:Bool} (hx:opv env x=some (.map (some b))) (hy:opv env y=some (kf a)) (hk:KeyKind P K kf) (ht:Ty P t (.map K E) s tz by_) {zE:Value} (hz:∀ w,(zeroValue E).run P w=.ok zE w) (hm:(b,Blk.obj (mapO kf l cl))∈H) :
    Ex P n env (Sat w0 H) (.lookup t x y ok) ty (if ok then .tuple #[(mGet l a).getD zE,.bool (mHas l a)] else (mGet l a).getD zE):=fun a' w d pos aft g ha hs=>by
  have hb:w.heap[b]?=some (mapO kf l cl):=(hs.own _ hm).2
  simp [execOp,ha.opv hx,ha.opv hy,run_lookup hk ht hz hb,Result.andThen]
theorem W_lookup {ok:Bool} (hx:opv env x=some (.map (some b))) (hy:opv env y=some (kf a)) (hk:KeyKind P K kf) (ht:Ty P t (.map K E) s tz by_) {zE:Value} (hz:∀ w,(zeroValue E).run P w=.ok zE w) (hm:(b,Blk.obj (mapO kf l cl))∈H) (hd:Nat.blt d n=true)
    (h:W P rd w0 Q n ds (.ops all rest::k) ((d,if ok then .tuple #[(mGet l a).getD zE,.bool (mHas l a)] else (mGet l a).getD zE)::env) H) :
    W P rd w0 Q n ds (.ops all (⟨some d,.lookup t x y ok,ty,pos,aft,none⟩::rest)::k) env H :=
  W_pure rfl nofun hd (fun a' w ha hs=>X_lookup hx hy hk ht hz hm a' w (some d) pos aft none ha hs) h
theorem run_put (hk:KeyKind P K kf) (ht:Ty P t (.map K E) s tz by_) (hok:MapOk l cl) {w:World} (hb:w.heap[b]?=some (mapO kf l cl)) :
    (Instr.mapUpdate t (.map (some b)) (kf a) v).run P w=.ok () (setBlock w b (mapO kf (mPut l cl a v) (mClk l cl a))):=by
  obtain ⟨dK,hu,hsame⟩:=hk.same
  have hf:=MapKept.run_findKey (P:=P) (w:=w) hu (find_now hsame a l 0)
  simp only [Instr.mapUpdate,Sem.run_bind,ht.run,Result.andThen,MapKept.run_getObj_map hb,Sem.run_pure,hk.check,hf]
  cases hi:mIdx l a with
  | none =>
    obtain ⟨h1,h2⟩:=idx_none hi
    simp only [Option.map_none,MapKept.run_setObj_map _ hb,setBlock,mapO,mPut,mClk,h1,Bool.false_eq_true,if_false]
    congr 2
    simp [entO]
  | some j =>
    obtain ⟨p,hp,e,hfd⟩:=idx_some hi
    have hg:(((l.map (entO kf)).toArray[0+j]?).map (·.key)).getD (kf a)=kf a:=by
      simp [hp,entO,e]
    simp only [Option.map_some,Sem.run_bind,hg,hk.stays,Result.andThen,MapKept.run_setObj_map _ hb,setBlock,mapO,mPut,mClk,has_idx hi,if_true]
    congr 2
    have:=modify_ents (kf:=kf) (v:=v) a hok.keys hi
    rw [← this]
    have e2:(l.map (entO kf)).toArray.modify (0+j) (fun e=>{ e with key:=kf a,val:=v })=((l.map (entO kf)).modify j (fun e=>{ e with key:=kf a,val:=v })).toArray:=by
      apply Array.ext'
      simp
    rw [e2]
theorem W_mapUpdate (hx:opv env x=some (.map (some b))) (hy:opv env y=some (kf a)) (hv:opv env z=some v) (hk:KeyKind P K kf) (ht:Ty P t (.map K E) s tz by_) (hok:MapOk l cl) (hu:Upd b (.obj (mapO kf l cl)) (.obj (mapO kf (mPut l cl a v) (mClk l cl a))) H H')
    (h:W P rd w0 Q n ds (.ops all rest::k) env H'):W P rd w0 Q n ds (.ops all (⟨none,.mapUpdate t x y z,ty,pos,aft,none⟩::rest)::k) env H :=
  W_gen rfl nofun rfl fun a' w ha hs=>by
    have hb:w.heap[b]?=some (mapO kf l cl):=(hs.own _ hu.mem).2
    refine ⟨undef,H',_,.inr ⟨?_,rfl⟩,hs.setO hu,h⟩
    simp [execOp,ha.opv hx,ha.opv hy,ha.opv hv,run_put hk ht hok hb,Result.andThen]
theorem run_del (hk:KeyKind P K kf) (ht:Ty P t (.map K E) s tz by_) (hok:MapOk l cl) {w:World} (hb:w.heap[b]?=some (mapO kf l cl)) :
    (Builtin.delete_ #[t,u] ty #[.map (some b),kf a]).run P w=.ok (.tuple #[]) (setBlock w b (mapO kf (mDel l a) cl)):=by
  obtain ⟨dK,hu,hsame⟩:=hk.same
  have hf:=MapKept.run_findKey (P:=P) (w:=w) hu (find_now hsame a l 0)
  have h0:(#[t,u]:Array TypeId)[0]?=some t:=rfl
  have h1:(#[Value.map (some b),kf a]:Array Value)[0]?=some (.map (some b)):=rfl
  have h2:(#[Value.map (some b),kf a]:Array Value)[1]?=some (kf a):=rfl
  simp only [Builtin.delete_,h0,h1,h2,Sem.run_bind,ht.run,Result.andThen,MapKept.run_getObj_map hb,hk.check,hf]
  cases hi:mIdx l a with
  | none =>
    obtain ⟨h1,h2⟩:=idx_none hi
    simp [MapKept.run_setObj_map _ hb,setBlock,mapO,del_none h1,Result.andThen]
  | some j =>
    rw [← erase_ents hok.keys hi]
    have e:((l.map (entO kf)).toArray.eraseIdxIfInBounds (0+j))=((l.eraseIdx j).map (entO kf)).toArray:=by
      apply Array.ext'
      rw [Nat.zero_add,Array.toList_eraseIdxIfInBounds]
      simp [Go.ChangeMaps.map_eraseIdx]
    simp [e,MapKept.run_setObj_map _ hb,setBlock,mapO,Result.andThen,Go.ChangeMaps.map_eraseIdx]
theorem W_delete {od:Option Nat} (hx:opv env x=some (.map (some b))) (hy:opv env y=some (kf a)) (hk:KeyKind P K kf) (ht:Ty P t (.map K E) s tz by_) (hok:MapOk l cl) (hu:Upd b (.obj (mapO kf l cl)) (.obj (mapO kf (mDel l a) cl)) H H') (hd:dok n od=true)
    (h:W P rd w0 Q n ds (.ops all rest::k) (put od (.tuple #[]) env) H'):W P rd w0 Q n ds (.ops all (⟨od,.call ⟨.builtin .delete,#[x,y],#[t,u]⟩,ty,pos,aft,none⟩::rest)::k) env H :=
  W_gen rfl nofun hd fun a' w ha hs=>by
    have hb:w.heap[b]?=some (mapO kf l cl):=(hs.own _ hu.mem).2
    refine ⟨.tuple #[],H',_,.inl ?_,hs.setO hu,h⟩
    simp [execOp,resolve,invoke,builtin,ha.opv hx,ha.opv hy,run_del hk ht hok hb,Result.andThen]
theorem X_lenMap (hx:opv env x=some (.map (some b))) (ht:Ty P t (.map K E) s tz by_) (hm:(b,Blk.obj (mapO kf l cl))∈H) :
    Ex P n env (Sat w0 H) (.call ⟨.builtin .len,#[x],#[t]⟩) ty (.int .i64 (l.length:Int)):=fun a' w d pos aft g ha hs=>by
  have hb:w.heap[b]?=some (.map (l.map (entO kf)).toArray cl):=(hs.own _ hm).2
  simp [execOp,resolve,invoke,builtin,ha.opv hx,Builtin.len_,ht.run,MapKept.run_getObj_map hb,goInt,Result.andThen]
theorem W_lenMap (hx:opv env x=some (.map (some b))) (ht:Ty P t (.map K E) s tz by_) (hm:(b,Blk.obj (mapO kf l cl))∈H) (hd:Nat.blt d n=true)
    (h:W P rd w0 Q n ds (.ops all rest::k) ((d,.int .i64 (l.length:Int))::env) H):W P rd w0 Q n ds (.ops all (⟨some d,.call ⟨.builtin .len,#[x],#[t]⟩,ty,pos,aft,none⟩::rest)::k) env H :=
  W_pure rfl nofun hd (fun a' w ha hs=>X_lenMap hx ht hm a' w (some d) pos aft none ha hs) h
def iterO (b since:Nat) (sl:List Nat) (c0:Nat):Obj:=.mapIter (some b) since sl.toArray c0
theorem W_range (hx:opv env x=some (.map (some b))) (ht:Ty P t (.map K E) s tz by_) (hm:(b,Blk.obj (mapO kf l cl))∈H) (hd:Nat.blt d n=true)
    (h:∀ r:Nat,W P rd w0 Q n ds (.ops all rest::k) ((d,.pointer (some ⟨r,0,none⟩))::env) ((r,.obj (iterO b cl [] cl))::H)) :
    W P rd w0 Q n ds (.ops all (⟨some d,.range t x,ty,pos,aft,none⟩::rest)::k) env H :=
  W_gen rfl nofun hd fun a' w ha hs=>by
    have hb:w.heap[b]?=some (.map (l.map (entO kf)).toArray cl):=(hs.own _ hm).2
    refine ⟨.pointer (some ⟨w.heap.size,0,none⟩),(w.heap.size,.obj (iterO b cl [] cl))::H,w.alloc (.mapIter (some b) cl #[] cl),.inl ?_,hs.alloc _ (At.alloc_obj w _),h w.heap.size⟩
    simp [execOp,ha.opv hx,run_range_map w t K E b _ cl ht.und hb,Result.andThen]
theorem W_next {r since c0:Nat} {sl:List Nat} {HN:(α × Value × Nat)→Heap} (hx:opv env x=some (.pointer (some ⟨r,0,none⟩))) (hm:(b,Blk.obj (mapO kf l cl))∈H) (hr:(r,Blk.obj (iterO b since sl c0))∈H) (hold:∀ p∈l,p.2.2<since) (hsc:since≤c0)
    (hu:∀ p,Upd r (.obj (iterO b since sl c0)) (.obj (iterO b since (sl++[p.2.2]) cl)) H (HN p)) (hd:Nat.blt d n=true)
    (h0:(∀ p∈l,p.2.2∈sl)→W P rd w0 Q n ds (.ops all rest::k) ((d,.tuple #[.bool false])::env) H)
    (h1:∀ p∈l,p.2.2 ∉ sl→W P rd w0 Q n ds (.ops all rest::k) ((d,.tuple #[.bool true,kf p.1,p.2.1])::env) (HN p)) :
    W P rd w0 Q n ds (.ops all (⟨some d,.next x false,ty,pos,aft,none⟩::rest)::k) env H :=
  W_gen rfl nofun hd fun a' w ha hs=>by
    have hb:w.heap[b]?=some (.map (l.map (entO kf)).toArray cl):=(hs.own _ hm).2
    have hri:w.heap[r]?=some (.mapIter (some b) since sl.toArray c0):=(hs.own _ hr).2
    have hold':∀ e∈(l.map (entO kf)).toArray.toList,e.born<since:=fun e he=>by
      obtain ⟨p,hp,rfl⟩:∃ p,p∈l∧entO kf p=e:=List.mem_map.1 he
      exact hold p hp
    rcases run_next_at (P:=P) w ty r b since c0 sl.toArray _ cl hri hb hold' hsc with ⟨hz,hrun⟩ | ⟨e,he,w1,hw1,hrun⟩
    · refine ⟨.tuple #[.bool false],H,w,.inl ?_,hs,h0 fun p hp=>?_⟩
      · simp [execOp,ha.opv hx,hrun,Result.andThen]
      · have hnil:leftOf (l.map (entO kf)).toArray sl.toArray=#[]:=Array.eq_empty_of_size_eq_zero hz
        unfold leftOf at hnil
        rw [Array.filter_eq_empty_iff] at hnil
        have:=hnil (entO kf p) (by simpa using List.mem_map.2 ⟨p,hp,rfl⟩)
        simpa [entO] using this
    · obtain ⟨hmem,hnc⟩:=mem_left he
      obtain ⟨p,hp,rfl⟩:∃ p,p∈l∧entO kf p=e:=List.mem_map.1 hmem
      refine ⟨.tuple #[.bool true,kf p.1,p.2.1],HN p,setBlock w1 r (.mapIter (some b) since (sl.toArray.push (entO kf p).born) cl),.inl ?_,?_,h1 p hp (by simpa [entO] using hnc)⟩
      · have:(Instr.next (.pointer (some ⟨r,0,none⟩)) false ty).run P w=.ok (.tuple #[.bool true,kf p.1,p.2.1]) (setBlock w1 r (.mapIter (some b) since (sl.toArray.push (entO kf p).born) cl)):=hrun
        simp [execOp,ha.opv hx,this,Result.andThen]
      · have hs1:Sat w0 H w1:=by
          rcases hw1 with rfl | rfl
          · exact hs
          · exact hs.drew
        have e2:(.mapIter (some b) since (sl.toArray.push (entO kf p).born) cl:Obj)=iterO b since (sl++[p.2.2]) cl:=by simp [iterO,entO]
        rw [e2]
        exact hs1.setO (hu p)
theorem X_entry {r since:Nat} {sl:List Nat} {p:α × Value × Nat} (hx:opv env x=some (.pointer (some ⟨r,0,none⟩))) (hm:(b,Blk.obj (mapO kf l cl))∈H) (hr:(r,Blk.obj (iterO b since (sl++[p.2.2]) cl))∈H) (hp:p∈l) (hok:MapOk l cl) :
    Ex P n env (Sat w0 H) (.entry x) ty (.tuple #[kf p.1,p.2.1]):=fun a' w d pos aft g ha hs=>by
  have hb:w.heap[b]?=some (.map (l.map (entO kf)).toArray cl):=(hs.own _ hm).2
  have hri:w.heap[r]?=some (.mapIter (some b) since (sl.toArray.push (entO kf p).born) cl):=by
    have:w.heap[r]?=some (.mapIter (some b) since (sl++[p.2.2]).toArray cl):=(hs.own _ hr).2
    rw [this]; simp [entO]
  have:=run_entry_at (P:=P) w r b since sl.toArray _ cl (entO kf p) hri hb (List.mem_map.2 ⟨p,hp,rfl⟩) (by
    show (((l.map (entO kf)).map (·.born))).Nodup
    rw [List.map_map]
    exact hok.born)
  simp [execOp,ha.opv hx,this,Result.andThen,entO]
theorem W_entry {r since:Nat} {sl:List Nat} {p:α × Value × Nat} (hx:opv env x=some (.pointer (some ⟨r,0,none⟩))) (hm:(b,Blk.obj (mapO kf l cl))∈H) (hr:(r,Blk.obj (iterO b since (sl++[p.2.2]) cl))∈H) (hp:p∈l) (hok:MapOk l cl) (hd:Nat.blt d n=true)
    (h:W P rd w0 Q n ds (.ops all rest::k) ((d,.tuple #[kf p.1,p.2.1])::env) H):W P rd w0 Q n ds (.ops all (⟨some d,.entry x,ty,pos,aft,none⟩::rest)::k) env H :=
  W_pure rfl nofun hd (fun a' w ha hs=>X_entry hx hm hr hp hok a' w (some d) pos aft none ha hs) h
theorem nat_sub_len:∀ {a b:List Nat},a.Nodup→(∀ x∈a,x∈b)→a.length≤b.length
  | [],_,_,_=>Nat.zero_le _
  | x::a,b,hn,h=>by
    have hn':=List.nodup_cons.1 hn
    have hx:=h x List.mem_cons_self
    have:=nat_sub_len (a:=a) (b:=b.erase x) hn'.2 (fun y hy=>(List.mem_erase_of_ne (fun e:y=x=>hn'.1 (e ▸ hy))).2 (h y (List.mem_cons_of_mem _ hy)))
    rw [List.length_erase_of_mem hx] at this
    have:0<b.length:=List.length_pos_of_mem hx
    simp only [List.length_cons]; omega
theorem nodup_of_stamps {vs:Ents α} (hn:(vs.map (·.2.2)).Nodup):vs.Nodup:=List.Pairwise.of_map _ (fun a b h e=>h (congrArg (·.2.2) e)) hn
theorem stamp_inj {l:Ents α} (h:(l.map (·.2.2)).Nodup) {p q:α × Value × Nat} (hp:p∈l) (hq:q∈l) (e:p.2.2=q.2.2):p=q:=by
  obtain ⟨i,hi,rfl⟩:=List.getElem_of_mem hp
  obtain ⟨j,hj,rfl⟩:=List.getElem_of_mem hq
  have hpw:=List.pairwise_iff_getElem.1 h
  rcases Nat.lt_trichotomy i j with hij | rfl | hij
  · exact absurd (by rw [List.getElem_map,List.getElem_map]; exact e) (hpw i j (by simpa using hi) (by simpa using hj) hij)
  · rfl
  · exact absurd (by rw [List.getElem_map,List.getElem_map]; exact e.symm) (hpw j i (by simpa using hj) (by simpa using hi) hij)
theorem visit_perm {vs:Ents α} (hok:MapOk l cl) (hn:(vs.map (·.2.2)).Nodup) (hin:∀ p∈vs,p∈l) (hall:∀ p∈l,p.2.2∈vs.map (·.2.2)):vs.Perm l:=by
  refine (List.perm_ext_iff_of_nodup (nodup_of_stamps hn) (nodup_of_stamps hok.born)).2 fun p=>⟨hin p,fun hp=>?_⟩
  obtain ⟨q,hq,e⟩:=List.mem_map.1 (hall p hp)
  rw [← stamp_inj hok.born (hin q hq) hp e]; exact hq
theorem visit_lt {vs:Ents α} {p:α × Value × Nat} (hn:(vs.map (·.2.2)).Nodup) (hin:∀ p∈vs,p∈l) (hp:p∈l) (hnp:p.2.2 ∉ vs.map (·.2.2)):vs.length<l.length:=by
  have:=nat_sub_len (a:=p.2.2::vs.map (·.2.2)) (b:=l.map (·.2.2)) (List.nodup_cons.2 ⟨hnp,hn⟩) (fun x hx=>by
    rcases List.mem_cons.1 hx with rfl | hx
    · exact List.mem_map.2 ⟨p,hp,rfl⟩
    · obtain ⟨q,hq,rfl⟩:=List.mem_map.1 hx
      exact List.mem_map.2 ⟨q,hin q hq,rfl⟩)
  simp only [List.length_cons,List.length_map] at this
  omega
end
end Go.Sl
namespace Go.Sl
open Go
theorem flat_set {α:Type} {f:α→List Value} {s:Nat} (hf:∀ x,(f x).length=s):∀ {l:List α} {i:Nat} (x:α),i<l.length→spliceL (l.flatMap f) (i*s) (f x)=(l.set i x).flatMap f
  | [],_,_,h=>absurd h (Nat.not_lt_zero _)
  | y::l,0,x,_=>by
    unfold spliceL
    rw [Nat.zero_mul,List.take_zero,List.nil_append,Nat.zero_add,hf x,List.flatMap_cons,← hf y,List.drop_left]
    rfl
  | y::l,i+1,x,h=>by
    have ih:=flat_set hf (l:=l) (i:=i) x (by simpa using h)
    unfold spliceL at ih ⊢
    have e:(i+1)*s=(f y).length+i*s:=by rw [hf y,Nat.succ_mul,Nat.add_comm]
    rw [List.flatMap_cons,List.set_cons_succ,List.flatMap_cons,← ih,e,List.take_length_add_append,Nat.add_assoc,List.drop_length_add_append]
    simp only [List.append_assoc]
end Go.Sl
namespace Go.Sl
open Go.RowKit
theorem HSub.ofPerm {H H':Heap} (h:H.Perm H'):HSub H H':=by
  induction h with
  | nil=>exact .refl _
  | cons x _ ih=>exact .cons (.here _) ih
  | swap x y l=>exact .cons (.next (.here _)) (.refl _)
  | trans _ _ ih1 ih2=>exact .trans ih1 ih2
theorem flattenTake {α:Type}:∀ {XS:List (List α)} {k:Nat} {B:List α},XS[k]?=some B→XS.flatten.Perm (B++(XS.set k []).flatten)
  | X::XS,0,B,h=>by
    obtain rfl:X=B:=by simpa using h
    simp
  | X::XS,k+1,B,h=>by
    have ih:=flattenTake (XS:=XS) (k:=k) (B:=B) (by simpa using h)
    simp only [List.flatten_cons,List.set_cons_succ]
    exact (ih.append_left X).trans (by rw [← List.append_assoc,← List.append_assoc]; exact List.perm_append_comm.append_right _)
theorem flattenPut {α:Type} {XS:List (List α)} {k:Nat} {B:List α} (h:k<XS.length):(B++(XS.set k []).flatten).Perm (XS.set k B).flatten:=by
  have h1:=flattenTake (XS:=XS.set k B) (k:=k) (B:=B) (by simp [h])
  rw [List.set_set] at h1
  exact h1.symm
theorem flattenOut {XS:List Heap} {k:Nat} {B H:Heap} (h:XS[k]?=some B):HSub (XS.flatten++H) (B++((XS.set k []).flatten++H)) :=
  HSub.ofPerm (((flattenTake h).append_right H).trans (by rw [List.append_assoc]))
theorem flattenIn {XS:List Heap} {k:Nat} {B H:Heap} (h:k<XS.length):HSub (B++((XS.set k []).flatten++H)) ((XS.set k B).flatten++H):=by
  have h1:=(flattenPut (B:=B) h).append_right H
  rw [List.append_assoc] at h1
  exact HSub.ofPerm h1
theorem memFlatten {XS:List Heap} {k:Nat} {B:Heap} {p:Nat × Blk} (h:XS[k]?=some B) (hp:p∈B):p∈XS.flatten :=
  List.mem_flatten.2 ⟨B,List.mem_of_getElem? h,hp⟩
theorem OwnS.toHolds {w0:World} {e:TypeId} {s:Nat} {ad:Option Addr} {n cap:Nat} {xs:List Value} {HB H:Heap} (h:OwnS e s (.slice ad n cap) n xs HB) (hs:∀ p∈HB,p∈H):Holds w0 H ad xs:=by
  obtain ⟨ad',cap',e',_,_,hh⟩:=Holds.of_own (w0:=w0) (H:=H) h hs
  cases e'
  exact hh
end Go.Sl
namespace Go.Sl
open Go.RowKit
section
variable {P:Program} {ops:Array Oper} {C C2:World→Prop} {Q:Exit→Act→World→Prop} {s:Nat}
def anyS (P:Program) (ops:Array Oper) (C C2:World→Prop) (Q:Exit→Act→World→Prop) (s:Nat):Nat→Array Bool→Act→World→Prop
  | 0,l,a,w=>C w∧Region.ready .any ops l=[]∧Q .normal a w
  | f+1,l,a,w=>C w∧(Region.ready .any ops l=[]→Q .normal a w)∧(∀ i∈Region.ready .any ops l,i≠s→wpOpIn (fen none) 0 P ops Q i (anyS P ops C C2 Q s f (l.setIfInBounds i true)) a w) ∧
      (s∈Region.ready .any ops l→wpOpIn (fen none) 0 P ops Q s (anyC P ops C2 Q f (l.setIfInBounds s true)) a w)
theorem anyS.any:∀ {f:Nat} {l:Array Bool} {a:Act} {w:World},anyS P ops C C2 Q s f l a w→wpAnyIn (fen none) 0 P .any ops Q f l a w
  | 0,_,_,_,h=>h.2
  | f+1,l,_,_,h=>⟨h.2.1,fun i hi=>by
    by_cases e:i=s
    · subst e; exact wpOpIn_mono (fun _ _ h=>h.any) (h.2.2.2 hi)
    · exact wpOpIn_mono (fun _ _ h=>h.any) (h.2.2.1 i hi e)⟩
theorem anyS_first {i:Nat} {oi:Oper} {v:Value} (hi:ops[i]?=some oi) (his:i≠s) (hsel:∀ (j:Nat) (o:Oper) cs b,ops[j]?=some o→o.op≠.select cs b) (hQ:∀ c a w,Q (.panic c) (a.put oi.dst v) w→Q (.panic c) a w) :
    ∀ (f:Nat) (l:Array Bool) (a:Act) (w:World),
      (∀ j oj,ops[j]?=some oj→j≠i→l.getD j true=false→(∀ e∈oj.after,Region.binds .any e=true→e.on≠i)→oi.apart ops oj=true) →
      i∈Region.ready .any ops l→TakesC P ops C oi v a→((∃ os e,ops[s]?=some os∧e∈os.after∧Region.binds .any e=true∧e.on=i)∨TakesC P ops C2 oi v a)→anyS P ops C C2 Q s f (l.setIfInBounds i true) (a.put oi.dst v) w→anyS P ops C C2 Q s (f+1) l a w:=by
  intro f
  induction f with
  | zero =>
    intro l a w _ hr hy _ H
    refine ⟨H.1,fun h=>(by rw [h] at hr; cases hr),fun j hj hjs=>?_,fun hj=>?_⟩
    · by_cases hji:j=i
      · subst hji; exact hy.op hi H.1 H
      · have:=ready_mono hj hji
        rw [H.2.1] at this
        cases this
    · have:=ready_mono hj (Ne.symm his)
      rw [H.2.1] at this
      cases this
  | succ f ih =>
    intro l a w hfree hr hy hc H
    have notOf:∀ j oj,j∈Region.ready .any ops l→ops[j]?=some oj→∀ e∈oj.after,Region.binds .any e=true→e.on≠i:=fun j oj hj hoj e he hb heq=>by
      obtain ⟨_,oj',hoj',hall⟩:=mem_ready.1 hj
      obtain rfl:oj=oj':=Option.some.inj (hoj.symm.trans hoj')
      have h1:=hall e he hb
      have h0:=(mem_ready.1 hr).1
      rw [heq] at h1
      rcases Nat.lt_or_ge i l.size with h' | h'
      · simp [h'] at h0 h1; rw [h0] at h1; cases h1
      · simp [Array.getElem?_eq_none h'] at h1
    have free':∀ j,∀ k ok,ops[k]?=some ok→k≠i→(l.setIfInBounds j true).getD k true=false →
          (∀ e∈ok.after,Region.binds .any e=true→e.on≠i)→oi.apart ops ok=true:=fun j k ok hk hki hun hno=>by
      refine hfree k ok hk hki ?_ hno
      by_cases hjk:j=k
      · subst hjk
        rcases Nat.lt_or_ge j l.size with h' | h'
        · simp [h'] at hun
        · simp [Array.getElem?_eq_none h'] at hun
      · rw [getD_set_ne true hjk] at hun; exact hun
    refine ⟨H.1,fun h=>(by rw [h] at hr; cases hr),fun j hj hjs=>?_,fun hj=>?_⟩
    · by_cases hji:j=i
      · subst hji; exact hy.op hi H.1 H
      · have h1:=H.2.2.1 j (ready_mono hj hji) hjs
        obtain ⟨hjun,oj,hoj,hall⟩:=mem_ready.1 hj
        have h2:=op_putC hoj (hfree j oj hoj hji hjun (notOf j oj hj hoj)) (fun cs b=>hsel i oi cs b hi) (fun cs b=>hsel j oj cs b hoj) hQ h1
        refine wpOpIn_mono (fun a' w' h3=>ih (l.setIfInBounds j true) a' w' (free' j) (ready_mono hr (Ne.symm hji)) (hy.pass h3.1) (hc.imp id (·.pass h3.1)) ?_) h2
        rw [Array.setIfInBounds_comm _ _ hji]
        exact h3.2
    · have hji:s≠i:=Ne.symm his
      have h1:=H.2.2.2 (ready_mono hj hji)
      obtain ⟨hjun,oj,hoj,hall⟩:=mem_ready.1 hj
      rcases hc with ⟨os,e,hos,he,hb,heq⟩ | hc
      · exact absurd heq (notOf s os hj hos e he hb)
      · have h2:=op_putC hoj (hfree s oj hoj hji hjun (notOf s oj hj hoj)) (fun cs b=>hsel i oi cs b hi) (fun cs b=>hsel s oj cs b hoj) hQ h1
        refine wpOpIn_mono (fun a' w' h3=>anyC_first hi hsel hQ f (l.setIfInBounds s true) a' w' (free' s) (ready_mono hr (Ne.symm hji)) (hc.pass h3.1) ?_) h2
        rw [Array.setIfInBounds_comm _ _ hji]
        exact h3.2
end
section
variable {P:Program} {w0:World} {Q:Exit→Act→World→Prop} {n:Nat} {ds:List Deferred} {k:List It} {env env':Env} {H H' Hc:Heap} {ops:Array Oper} {s:Nat}
def WS (P:Program) (w0:World) (Q:Exit→Act→World→Prop) (n:Nat) (ds:List Deferred) (k:List It) (ops:Array Oper) (Hc:Heap) (s fuel:Nat) (listed:Array Bool) (env:Env) (H:Heap):Prop :=
  ∀ a w,Agree n env a→a.defers=ds→Sat w0 H w→anyS P ops (Sat w0 Hc) (Sat w0 []) (Q0 P Q k) s fuel listed a w
theorem W_anyS {id:Nat} {l:List Oper} (Hc:Heap) (s:Nat) (hm:P.follows .mixedOrders=true) (h:WS P w0 Q n ds k l.toArray Hc s l.length (Array.replicate l.length false) env H):W P none w0 Q n ds (.code (.region id l.toArray true)::k) env H:=by
  intro a w ha hd hs
  show (Code.region id l.toArray true).wpIn (fen none) 0 P (Cont P none Q k) a w
  exact wpIn_mono (wpIn_region_any hm (by simpa using (h a _ ha hd hs.drew).any)) fun _ _ _=>Q0_of
def bindsOn (ops:Array Oper) (s i:Nat):Bool :=
  match ops[s]? with
  | some os=>os.after.any fun e=>Region.binds .any e && Nat.beq e.on i
  | none=>false
theorem bindsOn_spec {i:Nat} (h:bindsOn ops s i=true):∃ os e,ops[s]?=some os∧e∈os.after∧Region.binds .any e=true∧e.on=i:=by
  unfold bindsOn at h
  cases ho:ops[s]? with
  | none=>rw [ho] at h; cases h
  | some os =>
    rw [ho] at h
    obtain ⟨e,he,hb⟩:=Array.any_eq_true'.1 h
    rw [Bool.and_eq_true] at hb
    exact ⟨os,e,rfl,he,hb.1,Nat.eq_of_beq_eq_true hb.2⟩
theorem WS_take (i:Nat) {op:Op} {ty:TypeId} {v:Value} {d:Nat} {pos:String} {aft:Array Edge} {fuel:Nat} {listed l':Array Bool} (hi:ops[i]?=some ⟨some d,op,ty,pos,aft,none⟩) (his:Nat.beq i s=false) (hs:Region.noSelect ops=true) (hf:Region.free .any ops listed i=true) (hr:(Region.ready .any ops listed).contains i=true)
    (hdep:bindsOn ops s i=true) (hcall:NoCall op=true) (hl:listed.setIfInBounds i true=l') (hx:Ex P n env (Sat w0 Hc) op ty v) (hd:Nat.blt d n=true)
    (h:WS P w0 Q n ds k ops Hc s fuel l' ((d,v)::env) H):WS P w0 Q n ds k ops Hc s (fuel+1) listed env H:=fun a w ha hds hsat=>by
  subst hl
  exact anyS_first hi (fun e=>by rw [e] at his; simp at his) (Region.noSelect_spec hs) (fun _ _ _ hq=>hq.elim) fuel listed a w (Region.free_spec hi hf) (by simpa using hr)
    ⟨by simp [Region.wanted],fun w hw=>hx a w _ _ _ _ ha hw,fun w _=>about_nocall hcall w _⟩ (.inl (bindsOn_spec hdep)) (h _ w (ha.put (d:=some d) hd) hds hsat)
theorem WS_takeP (i:Nat) {op:Op} {ty:TypeId} {v:Value} {d:Nat} {pos:String} {aft:Array Edge} {fuel:Nat} {listed l':Array Bool} (hi:ops[i]?=some ⟨some d,op,ty,pos,aft,none⟩) (his:Nat.beq i s=false) (hs:Region.noSelect ops=true) (hf:Region.free .any ops listed i=true) (hr:(Region.ready .any ops listed).contains i=true)
    (hcall:NoCall op=true) (hl:listed.setIfInBounds i true=l') (hx:Ex P n env (fun _=>True) op ty v) (hd:Nat.blt d n=true)
    (h:WS P w0 Q n ds k ops Hc s fuel l' ((d,v)::env) H):WS P w0 Q n ds k ops Hc s (fuel+1) listed env H:=fun a w ha hds hsat=>by
  subst hl
  exact anyS_first hi (fun e=>by rw [e] at his; simp at his) (Region.noSelect_spec hs) (fun _ _ _ hq=>hq.elim) fuel listed a w (Region.free_spec hi hf) (by simpa using hr)
    ⟨by simp [Region.wanted],fun w hw=>hx a w _ _ _ _ ha trivial,fun w _=>about_nocall hcall w _⟩ (.inr ⟨by simp [Region.wanted],fun w hw=>hx a w _ _ _ _ ha trivial,fun w _=>about_nocall hcall w _⟩) (h _ w (ha.put (d:=some d) hd) hds hsat)
theorem WS_one (i:Nat) {o:Oper} {fuel:Nat} {listed l':Array Bool} (hh:HSub H Hc) (his:Nat.beq i s=false) (hr:Region.ready .any ops listed=[i]) (hi:ops[i]?=some o) (hl:listed.setIfInBounds i true=l')
    (h:W P none w0 (fun _ _ _=>False) n ds [.ops ops [o],.goal (fun a w=>anyS P ops (Sat w0 Hc) (Sat w0 []) (Q0 P Q k) s fuel l' a w)] env H):WS P w0 Q n ds k ops Hc s (fuel+1) listed env H:=fun a w ha hds hsat=>by
  subst hl
  have hne:i≠s:=fun e=>by rw [e] at his; simp at his
  refine ⟨hsat.hsub hh,fun h0=>(by rw [hr] at h0; cases h0),fun j hj _=>?_,fun hj=>?_⟩
  · rw [hr] at hj
    obtain rfl:j=i:=by simpa using hj
    exact wc_op hi (h a w ha hds hsat)
  · rw [hr] at hj
    exact absurd (by simpa using hj:s=i).symm hne
theorem WS_last {o:Oper} {fuel:Nat} {listed l':Array Bool} (hh:HSub H Hc) (hr:Region.ready .any ops listed=[s]) (hi:ops[s]?=some o) (hl:listed.setIfInBounds s true=l')
    (h:W P none w0 (fun _ _ _=>False) n ds [.ops ops [o],.goal (fun a w=>anyC P ops (Sat w0 []) (Q0 P Q k) fuel l' a w)] env H):WS P w0 Q n ds k ops Hc s (fuel+1) listed env H:=fun a w ha hds hsat=>by
  subst hl
  refine ⟨hsat.hsub hh,fun h0=>(by rw [hr] at h0; cases h0),fun j hj hjs=>?_,fun hj=>wc_op hi (h a w ha hds hsat)⟩
  rw [hr] at hj
  exact absurd (by simpa using hj) hjs
theorem WS_goal {fuel:Nat} {l':Array Bool} {k':List It} {Q':Exit→Act→World→Prop} (h:WS P w0 Q n ds k ops Hc s fuel l' env H):W P none w0 Q' n ds (.goal (fun a w=>anyS P ops (Sat w0 Hc) (Sat w0 []) (Q0 P Q k) s fuel l' a w)::k') env H :=
  W_goal fun a w ha hd hs=>h a w ha hd hs
end
end Go.Sl
namespace Go.Sl.Rd
open Go.RowKit
def noDefer (ops:Array Oper):Bool:=ops.all fun o=>match o.op with | .defer _=>false | _=>true
theorem noDefer_spec {ops:Array Oper} (h:noDefer ops=true) (j:Nat) (o:Oper) (hj:ops[j]?=some o) (c:Call):o.op≠.defer c:=fun e=>by
  have:=Array.all_eq_true'.1 h o (Array.mem_of_getElem? hj)
  rw [e] at this; cases this
def Q0 (rd:Option Nat) (P:Program) (Q:Exit→Act→World→Prop) (k:List It):Exit→Act→World→Prop
  | .normal,a,w=>Cont P rd Q k .normal a w
  | _,_,_=>False
theorem Q0_of {rd:Option Nat} {P:Program} {Q:Exit→Act→World→Prop} {k:List It} {e:Exit} {a:Act} {w:World} (h:Q0 rd P Q k e a w):Cont P rd Q k e a w:=by cases e <;> first | exact h | exact h.elim
section
variable {rd:Option Nat} {P:Program} {ops:Array Oper} {C:World→Prop} {Q:Exit→Act→World→Prop}
def anyC (rd:Option Nat) (P:Program) (ops:Array Oper) (C:World→Prop) (Q:Exit→Act→World→Prop):Nat→Array Bool→Act→World→Prop
  | 0,l,a,w=>C w∧Region.ready .any ops l=[]∧Q .normal a w
  | f+1,l,a,w=>C w∧(Region.ready .any ops l=[]→Q .normal a w)∧∀ i∈Region.ready .any ops l,wpOpIn (fen rd) 0 P ops Q i (anyC rd P ops C Q f (l.setIfInBounds i true)) a w
theorem anyC.any:∀ {f:Nat} {l:Array Bool} {a:Act} {w:World},anyC rd P ops C Q f l a w→wpAnyIn (fen rd) 0 P .any ops Q f l a w
  | 0,_,_,_,h=>h.2
  | f+1,_,_,_,h=>⟨h.2.1,fun i hi=>wpOpIn_mono (fun _ _ h=>h.any) (h.2.2 i hi)⟩
theorem takes_op {i:Nat} {o:Oper} {v:Value} {a:Act} {w:World} {K:Act→World→Prop} (hi:ops[i]?=some o) (hnd:∀ c,o.op≠.defer c) (hy:TakesC P ops C o v a) (hw:C w) (h:K (a.put o.dst v) w):wpOpIn (fen rd) 0 P ops Q i K a w:=by
  unfold Go.wpOpIn
  simp only [hi,hy.wanted,if_true,Oper.wpIn,Oper.semAt_eq _ _ _ hnd,hy.run w hw,Oper.uponIn]
  exact ⟨fun f hf=>(by rw [hy.about w hw] at hf; cases hf),h⟩
theorem op_putC {j:Nat} {oi oj:Oper} {v:Value} (hj:ops[j]?=some oj) (hnd:∀ c,oj.op≠.defer c) (hap:oi.apart ops oj=true) (hsi:∀ cs b,oi.op≠.select cs b) (hsj:∀ cs b,oj.op≠.select cs b)
    (hQ:∀ c a w,Q (.panic c) (a.put oi.dst v) w→Q (.panic c) a w) {K:Act→World→Prop} {a:Act} {w:World} (h:wpOpIn (fen rd) 0 P ops Q j K (a.put oi.dst v) w) :
    wpOpIn (fen rd) 0 P ops Q j (fun a' w'=>PassC P ops oi oj a a'∧K (a'.put oi.dst v) w') a w:=by
  obtain ⟨h1,h2,h3⟩:=Oper.apart_spec hap
  have keep:∀ u,PassC P ops oi oj a (a.put oj.dst u):=fun u=>⟨execOp_put oi hsi a oj.dst u h3,wanted_put oi a oj.dst u h3,fun w=>about_put oi w a oj.dst u h3⟩
  have keepD:∀ d u,PassC P ops oi oj a (Act.put { a with defers:=d::a.defers } oj.dst u):=fun d u=>by
    have h:=(⟨execOp_put oi hsi { a with defers:=d::a.defers } oj.dst u h3,wanted_put oi { a with defers:=d::a.defers } oj.dst u h3,fun w=>about_put oi w { a with defers:=d::a.defers } oj.dst u h3⟩:PassC P ops oi oj { a with defers:=d::a.defers } _)
    exact ⟨h.run,h.wanted,h.about⟩
  unfold wpOpIn at *
  simp only [hj] at *
  rw [wanted_put oj a oi.dst v h1,about_put oj w a oi.dst v h1] at h
  split
  · rename_i hw
    simp only [hw,if_true] at h
    unfold Oper.wpIn at *
    rw [about_put oj w a oi.dst v h1] at h
    refine ⟨h.1,?_⟩
    have h:=h.2
    rw [Oper.semAt_eq _ _ _ hnd,execOp_put oj hsj a oi.dst v h1] at h
    rw [Oper.semAt_eq _ _ _ hnd]
    generalize (execOp a.eval oj).run P w=r at *
    cases r with
    | ok x w' =>
      cases x <;> simp only [Oper.uponIn] at h ⊢
      case value u=>exact ⟨keep u,by rw [← Act.put_comm a v u h2]; exact h⟩
      case skip=>exact ⟨keep _,by rw [← Act.put_comm a v undef h2]; exact h⟩
      case defer d =>
        refine ⟨keepD d _,?_⟩
        rw [← Act.put_comm _ v undef h2,← Act.put_defers]
        exact h
      case enter f args =>
        refine ⟨h.1,CallsIn.mono h.2 fun e w'' he=>?_⟩
        cases e with
        | returned u=>exact ⟨keep u,by rw [← Act.put_comm a v u h2]; exact he⟩
        | panicked c=>exact hQ _ _ _ he
        | outgrown=>exact he
      case row row args=>exact ⟨h.1,RowsIn.mono h.2 fun u w'' he=>⟨keep u,by rw [← Act.put_comm a v u h2]; exact he⟩⟩
      case round l f tmps assign body =>
        refine ⟨h.1,RoundIn.mono h.2 fun e w'' he=>?_⟩
        cases e with
        | returned u=>exact ⟨keep u,by rw [← Act.put_comm a v u h2]; exact he⟩
        | panicked c=>exact hQ _ _ _ he
        | outgrown=>exact he
    | halt x w' =>
      cases x <;> simp only [Oper.uponIn] at h ⊢
      case panic u=>exact hQ _ _ _ h
  · rename_i hw
    simp only [hw] at h
    exact ⟨h.1,keep _,by rw [← Act.put_comm a v undef h2]; exact h.2⟩
theorem anyC_first {i:Nat} {oi:Oper} {v:Value} (hi:ops[i]?=some oi) (hsel:∀ (j:Nat) (o:Oper) cs b,ops[j]?=some o→o.op≠.select cs b) (hnd:∀ (j:Nat) (o:Oper),ops[j]?=some o→∀ c,o.op≠.defer c) (hQ:∀ c a w,Q (.panic c) (a.put oi.dst v) w→Q (.panic c) a w) :
    ∀ (f:Nat) (l:Array Bool) (a:Act) (w:World),
      (∀ j oj,ops[j]?=some oj→j≠i→l.getD j true=false→(∀ e∈oj.after,Region.binds .any e=true→e.on≠i)→oi.apart ops oj=true) →
      i∈Region.ready .any ops l→TakesC P ops C oi v a→anyC rd P ops C Q f (l.setIfInBounds i true) (a.put oi.dst v) w→anyC rd P ops C Q (f+1) l a w:=by
  intro f
  induction f with
  | zero =>
    intro l a w _ hr hy H
    refine ⟨H.1,fun h=>(by rw [h] at hr; cases hr),fun j hj=>?_⟩
    by_cases hji:j=i
    · subst hji; exact takes_op hi (hnd _ _ hi) hy H.1 H
    · have:=ready_mono hj hji
      rw [H.2.1] at this
      cases this
  | succ f ih =>
    intro l a w hfree hr hy H
    refine ⟨H.1,fun h=>(by rw [h] at hr; cases hr),fun j hj=>?_⟩
    by_cases hji:j=i
    · subst hji; exact takes_op hi (hnd _ _ hi) hy H.1 H
    · have h1:=H.2.2 j (ready_mono hj hji)
      obtain ⟨hjun,oj,hoj,hall⟩:=mem_ready.1 hj
      have hnot:∀ e∈oj.after,Region.binds .any e=true→e.on≠i:=fun e he hb heq=>by
        have h1:=hall e he hb
        have h0:=(mem_ready.1 hr).1
        rw [heq] at h1
        rcases Nat.lt_or_ge i l.size with h' | h'
        · simp [h'] at h0 h1; rw [h0] at h1; cases h1
        · simp [Array.getElem?_eq_none h'] at h1
      have h2:=op_putC hoj (hnd _ _ hoj) (hfree j oj hoj hji hjun hnot) (fun cs b=>hsel i oi cs b hi) (fun cs b=>hsel j oj cs b hoj) hQ h1
      have hfree':∀ k ok,ops[k]?=some ok→k≠i→(l.setIfInBounds j true).getD k true=false →
          (∀ e∈ok.after,Region.binds .any e=true→e.on≠i)→oi.apart ops ok=true:=fun k ok hk hki hun hno=>by
        refine hfree k ok hk hki ?_ hno
        by_cases hjk:j=k
        · subst hjk; exact hjun
        · rw [getD_set_ne true hjk] at hun; exact hun
      refine wpOpIn_mono (fun a' w' h3=>ih (l.setIfInBounds j true) a' w' hfree' (ready_mono hr (Ne.symm hji)) (hy.pass h3.1) ?_) h2
      rw [Array.setIfInBounds_comm _ _ hji]
      exact h3.2
end
section
variable {rd:Option Nat} {P:Program} {w0:World} {Q:Exit→Act→World→Prop} {n:Nat} {ds:List Deferred} {k:List It} {env env':Env} {H H' Hc:Heap} {ops:Array Oper}
def WC (rd:Option Nat) (P:Program) (w0:World) (Q:Exit→Act→World→Prop) (n:Nat) (ds:List Deferred) (k:List It) (ops:Array Oper) (Hc:Heap) (fuel:Nat) (listed:Array Bool) (env:Env) (H:Heap):Prop :=
  ∀ a w,Agree n env a→a.defers=ds→Sat w0 H w→anyC rd P ops (Sat w0 Hc) (Q0 rd P Q k) fuel listed a w
theorem W_anyC {id:Nat} {l:List Oper} (Hc:Heap) (hm:P.follows .mixedOrders=true) (h:WC rd P w0 Q n ds k l.toArray Hc l.length (Array.replicate l.length false) env H):W P rd w0 Q n ds (.code (.region id l.toArray true)::k) env H:=by
  intro a w ha hd hs
  show (Code.region id l.toArray true).wpIn (fen rd) 0 P (Cont P rd Q k) a w
  exact wpIn_mono (wpIn_region_any hm (by simpa using (h a _ ha hd hs.drew).any)) fun _ _ _=>Q0_of
theorem WC_done {fuel:Nat} {listed:Array Bool} (hh:HSub H Hc) (hr:Region.ready .any ops listed=[]) (h:W P rd w0 Q n ds k env H):WC rd P w0 Q n ds k ops Hc fuel listed env H:=fun a w ha hd hs=>by
  have hq:Q0 rd P Q k .normal a w:=h a w ha hd hs
  cases fuel with
  | zero=>exact ⟨hs.hsub hh,hr,hq⟩
  | succ f=>exact ⟨hs.hsub hh,fun _=>hq,by rw [hr]; simp⟩
theorem WC_take (i:Nat) {op:Op} {ty:TypeId} {v:Value} {d:Nat} {pos:String} {aft:Array Edge} {fuel:Nat} {listed l':Array Bool} (hi:ops[i]?=some ⟨some d,op,ty,pos,aft,none⟩) (hs:Region.noSelect ops=true) (hnd:noDefer ops=true) (hf:Region.free .any ops listed i=true) (hr:(Region.ready .any ops listed).contains i=true)
    (hcall:NoCall op=true) (hl:listed.setIfInBounds i true=l') (hx:Ex P n env (Sat w0 Hc) op ty v) (hd:Nat.blt d n=true)
    (h:WC rd P w0 Q n ds k ops Hc fuel l' ((d,v)::env) H):WC rd P w0 Q n ds k ops Hc (fuel+1) listed env H:=fun a w ha hds hsat=>by
  subst hl
  exact anyC_first hi (Region.noSelect_spec hs) (noDefer_spec hnd) (fun _ _ _ hq=>hq.elim) fuel listed a w (Region.free_spec hi hf) (by simpa using hr)
    ⟨by simp [Region.wanted],fun w hw=>hx a w _ _ _ _ ha hw,fun w _=>about_nocall hcall w _⟩ (h _ w (ha.put (d:=some d) hd) hds hsat)
theorem wc_op {i:Nat} {o:Oper} {K:Act→World→Prop} {a:Act} {w:World} (hi:ops[i]?=some o) (h1:wpListIn (fen rd) 0 P ops (Cont P rd (fun _ _ _=>False) [.goal K]) [o] a w):wpOpIn (fen rd) 0 P ops (Q0 rd P Q k) i K a w:=by
  unfold wpOpIn
  rw [hi]
  unfold wpListIn at h1
  show if _ then _ else _
  split
  · rename_i hw
    rw [if_pos hw] at h1
    unfold Oper.wpIn
    refine ⟨h1.1,?_⟩
    have h2:=h1.2
    generalize (o.semAt (fen rd).round a.eval).run P w=r at h2 ⊢
    cases r with
    | ok x w' =>
      cases x <;> simp only [Oper.uponIn] at h2 ⊢ <;>
        first
          | exact h2
          | exact ⟨h2.1,CallsIn.mono h2.2 (fun e w'' he=>by cases e <;> first | exact he | exact he.elim | (obtain ⟨_,_,hf⟩:=he; exact hf.elim))⟩
          | exact ⟨h2.1,RowsIn.mono h2.2 (fun _ _ he=>he)⟩
          | exact ⟨h2.1,RoundIn.mono h2.2 (fun e w'' he=>by cases e <;> first | exact he | exact he.elim | (obtain ⟨_,_,hf⟩:=he; exact hf.elim))⟩
    | halt x w'=>cases x <;> simp only [Oper.uponIn] at h2 ⊢ <;> first | exact h2 | exact h2.elim
  · rename_i hw
    rw [if_neg hw] at h1
    exact h1
theorem WC_one (i:Nat) {o:Oper} {fuel:Nat} {listed l':Array Bool} (hh:HSub H Hc) (hr:Region.ready .any ops listed=[i]) (hi:ops[i]?=some o) (hl:listed.setIfInBounds i true=l')
    (h:W P rd w0 (fun _ _ _=>False) n ds [.ops ops [o],.goal (fun a w=>anyC rd P ops (Sat w0 Hc) (Q0 rd P Q k) fuel l' a w)] env H):WC rd P w0 Q n ds k ops Hc (fuel+1) listed env H:=fun a w ha hds hsat=>by
  subst hl
  refine ⟨hsat.hsub hh,fun h0=>(by rw [hr] at h0; cases h0),fun j hj=>?_⟩
  rw [hr] at hj
  obtain rfl:j=i:=by simpa using hj
  exact wc_op hi (h a w ha hds hsat)
theorem WC_goal {fuel:Nat} {l':Array Bool} {k':List It} {Q':Exit→Act→World→Prop} (h:WC rd P w0 Q n ds k ops Hc fuel l' env H):W P rd w0 Q' n ds (.goal (fun a w=>anyC rd P ops (Sat w0 Hc) (Q0 rd P Q k) fuel l' a w)::k') env H :=
  W_goal fun a w ha hd hs=>h a w ha hd hs
end
section
variable {rd:Option Nat} {P:Program} {ops:Array Oper} {C:World→Prop} {Q:Exit→Act→World→Prop}
end
section
variable {rd:Option Nat} {P:Program} {w0:World} {Q:Exit→Act→World→Prop} {n:Nat} {ds:List Deferred} {k:List It} {env env':Env} {H H' Hc:Heap} {ops:Array Oper}
end
section
variable {rd:Option Nat} {P:Program} {ops:Array Oper} {C C2:World→Prop} {Q:Exit→Act→World→Prop} {s:Nat}
def anyS (rd:Option Nat) (P:Program) (ops:Array Oper) (C C2:World→Prop) (Q:Exit→Act→World→Prop) (s:Nat):Nat→Array Bool→Act→World→Prop
  | 0,l,a,w=>C w∧Region.ready .any ops l=[]∧Q .normal a w
  | f+1,l,a,w=>C w∧(Region.ready .any ops l=[]→Q .normal a w)∧(∀ i∈Region.ready .any ops l,i≠s→wpOpIn (fen rd) 0 P ops Q i (anyS rd P ops C C2 Q s f (l.setIfInBounds i true)) a w) ∧
      (s∈Region.ready .any ops l→wpOpIn (fen rd) 0 P ops Q s (anyC rd P ops C2 Q f (l.setIfInBounds s true)) a w)
theorem anyS.any:∀ {f:Nat} {l:Array Bool} {a:Act} {w:World},anyS rd P ops C C2 Q s f l a w→wpAnyIn (fen rd) 0 P .any ops Q f l a w
  | 0,_,_,_,h=>h.2
  | f+1,l,_,_,h=>⟨h.2.1,fun i hi=>by
    by_cases e:i=s
    · subst e; exact wpOpIn_mono (fun _ _ h=>h.any) (h.2.2.2 hi)
    · exact wpOpIn_mono (fun _ _ h=>h.any) (h.2.2.1 i hi e)⟩
theorem anyS_first {i:Nat} {oi:Oper} {v:Value} (hi:ops[i]?=some oi) (his:i≠s) (hsel:∀ (j:Nat) (o:Oper) cs b,ops[j]?=some o→o.op≠.select cs b) (hnd:∀ (j:Nat) (o:Oper),ops[j]?=some o→∀ c,o.op≠.defer c) (hQ:∀ c a w,Q (.panic c) (a.put oi.dst v) w→Q (.panic c) a w) :
    ∀ (f:Nat) (l:Array Bool) (a:Act) (w:World),
      (∀ j oj,ops[j]?=some oj→j≠i→l.getD j true=false→(∀ e∈oj.after,Region.binds .any e=true→e.on≠i)→oi.apart ops oj=true) →
      i∈Region.ready .any ops l→TakesC P ops C oi v a→((∃ os e,ops[s]?=some os∧e∈os.after∧Region.binds .any e=true∧e.on=i)∨TakesC P ops C2 oi v a)→anyS rd P ops C C2 Q s f (l.setIfInBounds i true) (a.put oi.dst v) w→anyS rd P ops C C2 Q s (f+1) l a w:=by
  intro f
  induction f with
  | zero =>
    intro l a w _ hr hy _ H
    refine ⟨H.1,fun h=>(by rw [h] at hr; cases hr),fun j hj hjs=>?_,fun hj=>?_⟩
    · by_cases hji:j=i
      · subst hji; exact takes_op hi (hnd _ _ hi) hy H.1 H
      · have:=ready_mono hj hji
        rw [H.2.1] at this
        cases this
    · have:=ready_mono hj (Ne.symm his)
      rw [H.2.1] at this
      cases this
  | succ f ih =>
    intro l a w hfree hr hy hc H
    have notOf:∀ j oj,j∈Region.ready .any ops l→ops[j]?=some oj→∀ e∈oj.after,Region.binds .any e=true→e.on≠i:=fun j oj hj hoj e he hb heq=>by
      obtain ⟨_,oj',hoj',hall⟩:=mem_ready.1 hj
      obtain rfl:oj=oj':=Option.some.inj (hoj.symm.trans hoj')
      have h1:=hall e he hb
      have h0:=(mem_ready.1 hr).1
      rw [heq] at h1
      rcases Nat.lt_or_ge i l.size with h' | h'
      · simp [h'] at h0 h1; rw [h0] at h1; cases h1
      · simp [Array.getElem?_eq_none h'] at h1
    have free':∀ j,∀ k ok,ops[k]?=some ok→k≠i→(l.setIfInBounds j true).getD k true=false →
          (∀ e∈ok.after,Region.binds .any e=true→e.on≠i)→oi.apart ops ok=true:=fun j k ok hk hki hun hno=>by
      refine hfree k ok hk hki ?_ hno
      by_cases hjk:j=k
      · subst hjk
        rcases Nat.lt_or_ge j l.size with h' | h'
        · simp [h'] at hun
        · simp [Array.getElem?_eq_none h'] at hun
      · rw [getD_set_ne true hjk] at hun; exact hun
    refine ⟨H.1,fun h=>(by rw [h] at hr; cases hr),fun j hj hjs=>?_,fun hj=>?_⟩
    · by_cases hji:j=i
      · subst hji; exact takes_op hi (hnd _ _ hi) hy H.1 H
      · have h1:=H.2.2.1 j (ready_mono hj hji) hjs
        obtain ⟨hjun,oj,hoj,hall⟩:=mem_ready.1 hj
        have h2:=op_putC hoj (hnd _ _ hoj) (hfree j oj hoj hji hjun (notOf j oj hj hoj)) (fun cs b=>hsel i oi cs b hi) (fun cs b=>hsel j oj cs b hoj) hQ h1
        refine wpOpIn_mono (fun a' w' h3=>ih (l.setIfInBounds j true) a' w' (free' j) (ready_mono hr (Ne.symm hji)) (hy.pass h3.1) (hc.imp id (·.pass h3.1)) ?_) h2
        rw [Array.setIfInBounds_comm _ _ hji]
        exact h3.2
    · have hji:s≠i:=Ne.symm his
      have h1:=H.2.2.2 (ready_mono hj hji)
      obtain ⟨hjun,oj,hoj,hall⟩:=mem_ready.1 hj
      rcases hc with ⟨os,e,hos,he,hb,heq⟩ | hc
      · exact absurd heq (notOf s os hj hos e he hb)
      · have h2:=op_putC hoj (hnd _ _ hoj) (hfree s oj hoj hji hjun (notOf s oj hj hoj)) (fun cs b=>hsel i oi cs b hi) (fun cs b=>hsel s oj cs b hoj) hQ h1
        refine wpOpIn_mono (fun a' w' h3=>anyC_first hi hsel hnd hQ f (l.setIfInBounds s true) a' w' (free' s) (ready_mono hr (Ne.symm hji)) (hc.pass h3.1) ?_) h2
        rw [Array.setIfInBounds_comm _ _ hji]
        exact h3.2
end
section
variable {rd:Option Nat} {P:Program} {w0:World} {Q:Exit→Act→World→Prop} {n:Nat} {ds:List Deferred} {k:List It} {env env':Env} {H H' Hc:Heap} {ops:Array Oper} {s:Nat}
def WS (rd:Option Nat) (P:Program) (w0:World) (Q:Exit→Act→World→Prop) (n:Nat) (ds:List Deferred) (k:List It) (ops:Array Oper) (Hc:Heap) (s fuel:Nat) (listed:Array Bool) (env:Env) (H:Heap):Prop :=
  ∀ a w,Agree n env a→a.defers=ds→Sat w0 H w→anyS rd P ops (Sat w0 Hc) (Sat w0 []) (Q0 rd P Q k) s fuel listed a w
theorem W_anyS {id:Nat} {l:List Oper} (Hc:Heap) (s:Nat) (hm:P.follows .mixedOrders=true) (h:WS rd P w0 Q n ds k l.toArray Hc s l.length (Array.replicate l.length false) env H):W P rd w0 Q n ds (.code (.region id l.toArray true)::k) env H:=by
  intro a w ha hd hs
  show (Code.region id l.toArray true).wpIn (fen rd) 0 P (Cont P rd Q k) a w
  exact wpIn_mono (wpIn_region_any hm (by simpa using (h a _ ha hd hs.drew).any)) fun _ _ _=>Q0_of
theorem WS_take (i:Nat) {op:Op} {ty:TypeId} {v:Value} {d:Nat} {pos:String} {aft:Array Edge} {fuel:Nat} {listed l':Array Bool} (hi:ops[i]?=some ⟨some d,op,ty,pos,aft,none⟩) (his:Nat.beq i s=false) (hs:Region.noSelect ops=true) (hnd:noDefer ops=true) (hf:Region.free .any ops listed i=true) (hr:(Region.ready .any ops listed).contains i=true)
    (hdep:bindsOn ops s i=true) (hcall:NoCall op=true) (hl:listed.setIfInBounds i true=l') (hx:Ex P n env (Sat w0 Hc) op ty v) (hd:Nat.blt d n=true)
    (h:WS rd P w0 Q n ds k ops Hc s fuel l' ((d,v)::env) H):WS rd P w0 Q n ds k ops Hc s (fuel+1) listed env H:=fun a w ha hds hsat=>by
  subst hl
  exact anyS_first hi (fun e=>by rw [e] at his; simp at his) (Region.noSelect_spec hs) (noDefer_spec hnd) (fun _ _ _ hq=>hq.elim) fuel listed a w (Region.free_spec hi hf) (by simpa using hr)
    ⟨by simp [Region.wanted],fun w hw=>hx a w _ _ _ _ ha hw,fun w _=>about_nocall hcall w _⟩ (.inl (bindsOn_spec hdep)) (h _ w (ha.put (d:=some d) hd) hds hsat)
theorem WS_one (i:Nat) {o:Oper} {fuel:Nat} {listed l':Array Bool} (hh:HSub H Hc) (his:Nat.beq i s=false) (hr:Region.ready .any ops listed=[i]) (hi:ops[i]?=some o) (hl:listed.setIfInBounds i true=l')
    (h:W P rd w0 (fun _ _ _=>False) n ds [.ops ops [o],.goal (fun a w=>anyS rd P ops (Sat w0 Hc) (Sat w0 []) (Q0 rd P Q k) s fuel l' a w)] env H):WS rd P w0 Q n ds k ops Hc s (fuel+1) listed env H:=fun a w ha hds hsat=>by
  subst hl
  have hne:i≠s:=fun e=>by rw [e] at his; simp at his
  refine ⟨hsat.hsub hh,fun h0=>(by rw [hr] at h0; cases h0),fun j hj _=>?_,fun hj=>?_⟩
  · rw [hr] at hj
    obtain rfl:j=i:=by simpa using hj
    exact wc_op hi (h a w ha hds hsat)
  · rw [hr] at hj
    exact absurd (by simpa using hj:s=i).symm hne
theorem WS_last {o:Oper} {fuel:Nat} {listed l':Array Bool} (hh:HSub H Hc) (hr:Region.ready .any ops listed=[s]) (hi:ops[s]?=some o) (hl:listed.setIfInBounds s true=l')
    (h:W P rd w0 (fun _ _ _=>False) n ds [.ops ops [o],.goal (fun a w=>anyC rd P ops (Sat w0 []) (Q0 rd P Q k) fuel l' a w)] env H):WS rd P w0 Q n ds k ops Hc s (fuel+1) listed env H:=fun a w ha hds hsat=>by
  subst hl
  refine ⟨hsat.hsub hh,fun h0=>(by rw [hr] at h0; cases h0),fun j hj hjs=>?_,fun hj=>wc_op hi (h a w ha hds hsat)⟩
  rw [hr] at hj
  exact absurd (by simpa using hj) hjs
theorem WS_goal {fuel:Nat} {l':Array Bool} {k':List It} {Q':Exit→Act→World→Prop} (h:WS rd P w0 Q n ds k ops Hc s fuel l' env H):W P rd w0 Q' n ds (.goal (fun a w=>anyS rd P ops (Sat w0 Hc) (Sat w0 []) (Q0 rd P Q k) s fuel l' a w)::k') env H :=
  W_goal fun a w ha hd hs=>h a w ha hd hs
end
end Go.Sl.Rd
namespace Go.Sl
open Go.RowKit
section
variable {P:Program} {rd:Option Nat} {w0:World} {Q:Exit→Act→World→Prop} {n:Nat} {ds:List Deferred} {k:List It} {env env':Env} {H H':Heap} {all:Array Oper} {rest:List Oper}
variable {d:Nat} {x y c:Operand} {t u ty:TypeId} {pos:String} {aft:Array Edge} {v:Value} {tys:Array TypeId}
theorem zeroCells_one (z:Value) (m:Nat):(Builtin.zeroCells #[z] m).toList=List.replicate m z:=by
  apply List.ext_getElem?
  intro i
  simp only [Builtin.zeroCells,List.size_toArray,List.length_cons,List.length_nil,Nat.zero_add,Nat.mul_one,Array.toList_map,Array.toList_range,List.getElem?_map,List.getElem?_replicate]
  by_cases h:i<m
  · rw [List.getElem?_range h,if_pos h]
    simp [Nat.mod_one]
  · rw [List.getElem?_eq_none (by simpa using h),if_neg h]; rfl
theorem W_clear {b o e m cap tot s by_ be:Nat} {z zl:Value} {el:TypeId} {de:TypeDesc} {l l':List Value} (hx:opv env x=some (.slice (some ⟨b,o,none⟩) m cap)) (ht:Ty P t (.slice el) s zl by_) (he:Ty P el de 1 z be) (h1:z.oneCell'=true) (hm0:0<m)
    (hm:(b,Blk.cells e tot l)∈H) (hi:o+m≤l.length) (hl:spliceL l o (List.replicate m z)=l') (hu:Upd b (.cells e tot l) (.cells e tot l') H H')
    (h:W P rd w0 Q n ds (.ops all rest::k) env H'):W P rd w0 Q n ds (.ops all (⟨none,.call ⟨.builtin .clear,#[x],#[t]⟩,ty,pos,aft,none⟩::rest)::k) env H :=
  W_gen rfl nofun rfl fun a w ha hs=>by
    subst hl
    obtain ⟨hb,cur,hc,hsz,htk⟩:=hs.own _ hm
    have hlen:l.length≤cur.size:=by
      have:=congrArg List.length htk
      simp only [List.length_take,Array.length_toList] at this
      omega
    have hcl:z.cells=#[z]:=by cases z <;> first | rfl | simp [Value.oneCell'] at h1
    have h1':∀ v∈List.replicate m z,v.oneCell'=true:=fun v hv=>by rw [List.eq_of_mem_replicate hv]; exact h1
    have hst:=run_storeCells_at P b o e (List.replicate m z) 0 cur w hc (by simp only [List.length_replicate]; omega) h1'
    simp only [Nat.add_zero,List.length_replicate] at hst
    refine ⟨.tuple #[],H',_,.inl ?_,hs.upd hu (setRow_below (cs:=(List.take o cur.toList++List.replicate m z++List.drop (o+m) cur.toList).toArray) hb) (fun j hj _=>setRow_other w b j _ hj) ?_,h⟩
    · have hm':m≠0:=by omega
      obtain ⟨m',rfl⟩:∃ m',m=m'+1:=⟨m-1,by omega⟩
      simp [execOp,resolve,invoke,builtin,ha.opv hx,Builtin.clear_,ht.run,he.zero,hcl,zeroCells_one,hst,Result.andThen]
    · refine ⟨_,setRow_heap w b cur _ e _ hc,?_,?_⟩
      · simp only [List.size_toArray,List.length_append,List.length_take,List.length_drop,Array.length_toList,List.length_replicate]
        omega
      · rw [spliceL_length (by simpa using hi)]
        show (List.take o cur.toList++List.replicate m z++List.drop (o+m) cur.toList).take l.length=spliceL l o (List.replicate m z)
        unfold spliceL
        have e1:l.take o=cur.toList.take o:=by rw [← htk,List.take_take]; congr 1; omega
        have e2:l.drop (o+(List.replicate m z).length)=(cur.toList.drop (o+m)).take (l.length-(o+m)):=by
          rw [List.length_replicate]
          conv=>lhs; rw [← htk]
          rw [List.drop_take]
        rw [e1,e2,List.append_assoc,List.append_assoc,List.take_append,List.take_append]
        simp only [List.length_take,List.length_replicate,Array.length_toList]
        congr 1
        · rw [List.take_take]; congr 1; omega
        · congr 1
          · exact List.take_of_length_le (by simp only [List.length_replicate]; omega)
          · congr 1; omega
end
end Go.Sl
namespace Go.Sl
open Go.RowKit
def WR (P:Program) (C:World→Prop) (K:Act→World→Prop) (n:Nat) (ops:Array Oper) (l:List Oper) (env:Env):Prop :=
  ∀ a,Agree n env a→a.defers=[]→wpQuietIn (fen none) 0 P ops C (fun a'=>∀ w',C w'→K a' w') l a
section
variable {P:Program} {C:World→Prop} {K:Act→World→Prop} {n:Nat} {ops:Array Oper} {env:Env} {rest:List Oper} {op:Op} {ty:TypeId} {v:Value} {pos:String} {aft:Array Edge}
theorem WR_nil (h:∀ a w,Agree n env a→a.defers=[]→C w→K a w):WR P C K n ops [] env:=fun a ha hd w hw=>h a w ha hd hw
def Kret (P:Program) (C:World→Prop) (fn:Func) (v:Value):Act→World→Prop:=fun a w=>Code.ret.wpIn (fen none) 0 P (bodyPostM Fence.wide 0 P fn (fun e w'=>e=.returned v∧C w')) a w
theorem WR_ret {fn:Func} {d0:Nat} (hres:fn.results=#[.tmp d0]) (hv:look env d0=some v):WR P C (Kret P C fn v) n ops [] env:=WR_nil fun a w ha hd hw=>by
  refine wpIn_ret ?_
  show LeavesInM _ _ _ _ _ _ a.defers _ _
  rw [hd]
  exact ⟨v,by rw [run_res1 hres,ha.val _ _ hv],rfl,hw⟩
theorem WR_x {d:Nat} (hx:Ex P n env C op ty v) (hd:Nat.blt d n=true) (h:WR P C K n ops rest ((d,v)::env)):WR P C K n ops (⟨some d,op,ty,pos,aft,none⟩::rest) env:=fun a ha hds=>by
  refine ⟨fun _ _ _ _=>trivial,?_⟩
  rw [if_pos (by simp [Region.wanted])]
  exact ⟨v,fun w hs=>by
    unfold Oper.quietAtIn
    rw [hx a w (some d) pos aft none ha hs]
    exact ⟨rfl,rfl⟩,h _ (ha.put (d:=some d) hd) hds⟩
theorem WR_call {d:Option Nat} {f:FuncId} {l:List Operand} {vs:List Value} {tys:Array TypeId} (hc:OpVs env l vs) (hf:∀ (args:Array Value) (w:World),(callFunc f args).run P w=.ok (.enter f args) w) (hd:dok n d=true)
    (hL:∀ w,C w→Calls P f vs.toArray w fun e w'=>e=.returned v∧w'=w) (h:WR P C K n ops rest (put d v env)):WR P C K n ops (⟨d,.call ⟨.value (.func f),l.toArray,tys⟩,ty,pos,aft,none⟩::rest) env:=fun a ha hds=>by
  refine ⟨fun _ _ _ _=>trivial,?_⟩
  rw [if_pos (by simp [Region.wanted])]
  refine ⟨v,fun w hs=>?_,h _ (ha.put hd) (by cases d <;> exact hds)⟩
  unfold Oper.quietAtIn
  have hl:l.map a.eval=vs:=ha.opvs hc
  rw [show (execOp a.eval ⟨d,.call ⟨.value (.func f),l.toArray,tys⟩,ty,pos,aft,none⟩).run P w=.ok (.enter f vs.toArray) w by
    simp [execOp,resolve,Act.eval,Deferred.ofValue,invoke,hl,hf,Result.andThen]]
  refine ⟨rfl,fun h=>by simp [Fence.wide] at h,?_⟩
  have hcl:CallsIn (fen none) 0 P f vs.toArray w _:=callsIn_wide.2 (hL w hs)
  exact hcl.mono fun e w'' ⟨he,hw⟩=>⟨by rw [he],by rw [hw]; exact hs⟩
theorem R_enter {f:FuncId} {fn:Func} {id id2 d0:Nat} {v0:Value} {ty0:TypeId} {pos0:String} {aft0:Array Edge} {l:List Oper} {args:List Value} (hf:P.funcs[f]?=some fn)
    (hb:fn.body=some (.seq (.region id #[⟨some d0,.assign (.const v0),ty0,pos0,aft0,none⟩] false) (.seq (.region id2 l.toArray true) .ret))) (hn:fn.ntmps=n) (hl:Nat.ble args.length n=true) (he:envFrom 0 args=env) (hd0:Nat.blt d0 n=true)
    (hm:P.follows .mixedOrders=true) (hB:Region.lexB .any l.toArray=true) (hC:∀ w,C w→C w.drew) (h:WR P C (Kret P C fn v) n l.toArray l ((d0,v0)::env)) :
    ∀ w,C w→CallsIn Fence.wide 0 P f args.toArray w fun e w'=>e=.returned v∧C w':=by
  intro w hw
  refine callsIn_of_wp_marks hf hb trivial ?_
  refine wpIn_seq ?_
  have hl':args.length≤n:=by simpa using hl
  have ha:Agree n env { tmps:=args.toArray++Array.replicate (fn.ntmps-args.toArray.size) undef,defers:=[] }:=by
    refine ⟨by simp [hn]; omega,fun x v hx=>?_⟩
    subst he
    obtain ⟨_,h2⟩:=look_envFrom args 0 x v hx
    have h3:x<args.length:=(List.getElem?_eq_some_iff.1 h2).1
    simp only [Array.getD_eq_getD_getElem?]
    rw [Array.getElem?_append_left (by simpa using h3)]
    simpa using congrArg (Option.getD · undef) h2
  have had:({ tmps:=args.toArray++Array.replicate (fn.ntmps-args.toArray.size) undef,defers:=[] }:Act).defers=[]:=rfl
  generalize ({ tmps:=args.toArray++Array.replicate (fn.ntmps-args.toArray.size) undef,defers:=[] }:Act)=a at ha had ⊢
  refine wpIn_region_lit (l:=[⟨some d0,.assign (.const v0),ty0,pos0,aft0,none⟩]) ?_
  unfold wpListIn
  rw [if_pos (by simp [Region.wanted])]
  refine ⟨fun _ _=>trivial,?_⟩
  rw [Oper.semAt_eq _ _ _ (fun _ h=>by cases h),show (execOp a.eval ⟨some d0,.assign (.const v0),ty0,pos0,aft0,none⟩).run P w=.ok (.value v0) w by simp [execOp,Act.eval],Oper.uponIn_value]
  have ha1:Agree n ((d0,v0)::env) (a.put (some d0) v0):=ha.put (d:=some d0) hd0
  show (Code.seq (.region id2 l.toArray true) .ret).wpIn _ _ _ _ _ _
  refine wpIn_seq ?_
  refine wpIn_region_quiet (F:=fen none) (C:=C) rfl hm hB (hC w hw) ?_
  simp only [List.toList_toArray]
  exact h _ ha1 had
end
theorem Ex.mono {P:Program} {n:Nat} {env:Env} {C C':World→Prop} {op:Op} {ty:TypeId} {v:Value} (h:∀ w,C w→C' w) (hx:Ex P n env C' op ty v):Ex P n env C op ty v:=fun a w d pos aft g ha hw=>hx a w d pos aft g ha (h w hw)
theorem Sat.drewN {w0 w:World} {H:Heap} (h:Sat w0 H w) (q:Nat):Sat w0 H (w.drewN q):=h.below' ⟨rfl,rfl,rfl,Nat.le_refl _,fun _ _=>rfl⟩
open Go.Proofs in
theorem sat_sortWorld {α:Type} [Inhabited α] {w0 w:World} {H:Heap} {enc:α→Value} {e:TypeId} {b tot n:Nat} {d:List α} {d':Array α} {os:Array Obj} (hs:Sat w0 ((b,.cells e tot (d.map enc))::H) w) (hsz':d'.size=d.length) :
    Sat w0 ((b,.cells e tot (d'.toList.map enc))::H) (sortWorld enc w b 0 n d' os):=by
  obtain ⟨hb,c,hc,hcs,ht⟩:=hs.own (b,.cells e tot (d.map enc)) List.mem_cons_self
  have hs1:Sat w0 ((b,.cells e tot (d.map enc))::H) (Sort.ahead w n):=hs.below' ⟨rfl,rfl,rfl,Nat.le_refl _,fun _ _=>rfl⟩
  have hs2:Sat w0 ((b,.cells e tot (d'.toList.map enc))::H) (Sort.putRow enc (Sort.ahead w n) b 0 d'):=by
    refine hs1.upd (.head _) ⟨rfl,rfl,rfl,by simp [Sort.putRow,Sort.mapBlock],fun k hk=>?_⟩ (fun j hj _=>?_) ?_
    · simp only [Sort.putRow,Sort.mapBlock,Array.getElem?_modify]
      rw [if_neg (by omega)]
    · simp only [Sort.putRow,Sort.mapBlock,Array.getElem?_modify]
      rw [if_neg (fun e=>hj e.symm)]
    · refine ⟨Sort.putCells enc 0 d' c,?_,by simp [Sort.putCells,hcs],?_⟩
      · have hc':(Sort.ahead w n).heap[b]?=some (.cells c e (0,0)):=hc
        simp only [Sort.putRow,Sort.mapBlock,Array.getElem?_modify,if_true,hc',Option.map_some]
        rfl
      · have hle:d.length≤c.size:=by
          have:=congrArg List.length ht
          simp only [List.length_take,List.length_map,Array.length_toList] at this
          omega
        refine List.ext_getElem (by simp [Sort.putCells,hsz']; omega) fun i h1 h2=>?_
        have hi:i<d'.size:=by simpa using h2
        simp [Sort.putCells,hi]
  exact hs2.below' (by
    refine ⟨rfl,rfl,rfl,?_,fun k hk=>?_⟩
    · show _≤(_++os).size; simp
    · show (_++os)[k]?=_
      rw [Array.getElem?_append_left hk])
open Go.Proofs in
theorem L_sort {α:Type} [Inhabited α] {P:Program} {w0:World} {H:Heap} {f g:FuncId} {cb:Array Value} {enc:α→Value} {cf:α→α→Int} {e:TypeId} {b tot cap:Nat} {d:List α}
    (hcon:∀ w,Sat w0 ((b,.cells e tot (d.map enc))::H) w→Calls P f #[.slice (some ⟨b,0,none⟩) d.length cap,.func (.func g) #[] cb] w fun en w' =>
      en=.returned (.tuple #[])∧∃ d' n os,Go.Sort.PermIn 0 d.length d.toArray d'∧Go.Sort.SortedIn (ltOf cf) 0 d.length d'∧w'=sortWorld enc w b 0 n d' os) :
    LCalls P w0 f #[.slice (some ⟨b,0,none⟩) d.length cap,.func (.func g) #[] cb] ((b,.cells e tot (d.map enc))::H)
      (fun v H'=>v=.tuple #[]∧∃ d':List α,d'.Perm d∧(∀ (i j:Nat) x y,i<j→d'[i]?=some x→d'[j]?=some y→ltOf cf y x=false)∧H'=(b,.cells e tot (d'.map enc))::H):=fun w hs=>by
  refine (callsIn_wide.2 (hcon w hs)).mono ?_
  rintro en w' ⟨rfl,d',n,os,hp,hsrt,rfl⟩
  obtain ⟨hsz,_,hperm⟩:=hp
  have hsz':d'.size=d.length:=by simpa using hsz
  have e1:(d'.extract 0 d.length).toList=d'.toList:=by simp [← hsz']
  have e2:(d.toArray.extract 0 d.length).toList=d:=by simp
  rw [e1,e2] at hperm
  refine ⟨.tuple #[],(b,.cells e tot (d'.toList.map enc))::H,rfl,⟨rfl,d'.toList,hperm,fun i j x y hij hx hy=>?_,rfl⟩,sat_sortWorld hs hsz'⟩
  have hj:j<d'.size:=by simpa using (List.getElem?_eq_some_iff.1 hy).1
  have h1:=hsrt i j (Nat.zero_le _) hij (by omega)
  have ex:d'[i]! = x:=by
    have:d'[i]?=some x:=by simpa using hx
    simp [getElem!_def,this]
  have ey:d'[j]! = y:=by
    have:d'[j]?=some y:=by simpa using hy
    simp [getElem!_def,this]
  rwa [ex,ey] at h1
open Go.Proofs in
theorem holds_row {α:Type} [Inhabited α] {w0 w:World} {H:Heap} {enc:α→Value} {e:TypeId} {b tot:Nat} {d:List α} (hs:Sat w0 ((b,.cells e tot (d.map enc))::H) w):Sort.Holds enc w b 0 d.toArray:=fun j hj=>by
  have hj':j<d.length:=by simpa using hj
  refine ⟨?_,hs.frozen List.mem_cons_self⟩
  rw [Nat.zero_add]
  refine hs.cell List.mem_cons_self ?_
  rw [List.getElem?_map,List.getElem?_eq_getElem hj']
  simp [hj']
open Go.Proofs in
theorem swo_key {α:Type} (g:α→Int):Sort.SWO (ltOf fun x y=>Lib.compareInt (g x) (g y)):=by
  have e:∀ x y,ltOf (fun x y=>Lib.compareInt (g x) (g y)) x y=decide (g x<g y):=fun x y=>by
    unfold ltOf Lib.compareInt
    by_cases h1:g x<g y
    · simp [h1]
    · by_cases h2:g y<g x <;> simp [h1,h2]
  exact ⟨fun x=>by rw [e]; simp,fun x y z h1 h2=>by rw [e] at *; simp at *; omega,fun x y z h1 h2=>by rw [e] at *; simp at *; omega⟩
open Go.Proofs in
theorem lt_key {α:Type} (g:α→Int) {x y:α} (h:ltOf (fun x y=>Lib.compareInt (g x) (g y)) x y=false):g y≤g x:=by
  unfold ltOf Lib.compareInt at h
  by_cases h1:g x<g y
  · simp [h1] at h
  · omega
end Go.Sl
namespace Go.Sl
open Go.RowKit
section
variable {P:Program} {w0:World} {Q:Exit→Act→World→Prop} {n:Nat} {ds:List Deferred} {k:List It} {env env':Env} {H H' Hc:Heap} {ops:Array Oper} {s:Nat}
theorem WS_two (i j:Nat) {o o':Oper} {fuel:Nat} {listed l' l'':Array Bool} (hh:HSub H Hc) (his:Nat.beq i s=false) (hjs:Nat.beq j s=false) (hr:Region.ready .any ops listed=[i,j]) (hi:ops[i]?=some o) (hj:ops[j]?=some o') (hl:listed.setIfInBounds i true=l') (hl':listed.setIfInBounds j true=l'')
    (h:W P none w0 (fun _ _ _=>False) n ds [.ops ops [o],.goal (fun a w=>anyS P ops (Sat w0 Hc) (Sat w0 []) (Q0 P Q k) s fuel l' a w)] env H)
    (h':W P none w0 (fun _ _ _=>False) n ds [.ops ops [o'],.goal (fun a w=>anyS P ops (Sat w0 Hc) (Sat w0 []) (Q0 P Q k) s fuel l'' a w)] env H):WS P w0 Q n ds k ops Hc s (fuel+1) listed env H:=fun a w ha hds hsat=>by
  subst hl hl'
  have hi1:i≠s:=fun e=>by rw [e] at his; simp at his
  have hj1:j≠s:=fun e=>by rw [e] at hjs; simp at hjs
  refine ⟨hsat.hsub hh,fun h0=>(by rw [hr] at h0; cases h0),fun x hx _=>?_,fun hs=>?_⟩
  · rw [hr] at hx
    rcases (show x=i∨x=j by simpa using hx) with rfl | rfl
    · exact wc_op hi (h a w ha hds hsat)
    · exact wc_op hj (h' a w ha hds hsat)
  · rw [hr] at hs
    rcases (show s=i∨s=j by simpa using hs) with e | e
    · exact absurd e.symm hi1
    · exact absurd e.symm hj1
end
end Go.Sl
