/-
  Own work: a small logic for walking through a function's code: facts on slots, owned blocks of memory, and its rules; of any program.
-/
import Derived.Test.YtincjohoncljoaaGreatDoorLqS2
import Derived.ChangeKeysEq
import Derived.Shelf.SlSortCmp.Whole1
import Derived.Test.YtincjohoncljoaaGreatDoorLqS1
set_option linter.all false
set_option linter.unusedSimpArgs false
set_option linter.unusedVariables false
namespace Go.Sl
open Go.RowKit
section
variable {P:Program} {rd:Option Nat} {w0:World} {Q:Exit→Act→World→Prop} {n:Nat} {ds:List Deferred} {k:List It} {env env':Env} {H H':qg} {all:Array Oper} {rest:List Oper}
variable {d:Nat} {x y c:Operand} {t u ty:TypeId} {pos:String} {aft:Array Edge} {v:Value} {tys:Array TypeId}
theorem qc0 (z:Value) (m:Nat):(Builtin.zeroCells #[z] m).toList=List.replicate m z:=by
  apply List.ext_getElem?
  intro i
  simp only [Builtin.zeroCells,List.size_toArray,List.length_cons,List.length_nil,Nat.zero_add,Nat.mul_one,Array.toList_map,Array.toList_range,List.getElem?_map,List.getElem?_replicate]
  by_cases h:i<m
  · rw [List.getElem?_range h,if_pos h]
    simp [Nat.mod_one]
  · rw [List.getElem?_eq_none (by simpa using h),if_neg h]; rfl
theorem qoh {b o e m cap tot s by_ be:Nat} {z zl:Value} {el:TypeId} {de:TypeDesc} {l l':List Value} (hx:opv env x=some (.slice (some ⟨b,o,none⟩) m cap)) (ht:Ty P t (.slice el) s zl by_) (he:Ty P el de 1 z be) (h1:z.oneCell'=true) (hm0:0<m)
    (hm:(b,Blk.cells e tot l)∈H) (hi:o+m≤l.length) (hl:zA l o (List.replicate m z)=l') (hu:Upd b (.cells e tot l) (.cells e tot l') H H')
    (h:W P rd w0 Q n ds (.ops all rest::k) env H'):W P rd w0 Q n ds (.ops all (⟨none,.call ⟨.builtin .clear,#[x],#[t]⟩,ty,pos,aft,none⟩::rest)::k) env H :=
  J6 rfl nofun rfl fun a w ha hs=>by
    subst hl
    obtain ⟨hb,cur,hc,hsz,htk⟩:=hs.own _ hm
    have hlen:l.length≤cur.size:=by
      have:=congrArg List.length htk
      simp only [List.length_take,Array.length_toList] at this
      omega
    have hcl:z.cells=#[z]:=by cases z <;> first | rfl | simp [Value.oneCell'] at h1
    have h1':∀ v∈List.replicate m z,v.oneCell'=true:=fun v hv=>by rw [List.eq_of_mem_replicate hv]; exact h1
    have hst:=run_storeCells_at P b o e (List.replicate m z) 0 cur w hc (by simp only [List.length_replicate]; omega) h1'
    simp only [Nat.add_zero,List.length_replicate] at hst
    refine ⟨.tuple #[],H',_,.inl ?_,hs.upd hu (ZO (cs:=(List.take o cur.toList++List.replicate m z++List.drop (o+m) cur.toList).toArray) hb) (fun j hj _=>setRow_other w b j _ hj) ?_,h⟩
    · have hm':m≠0:=by omega
      obtain ⟨m',rfl⟩:∃ m',m=m'+1:=⟨m-1,by omega⟩
      simp [execOp,resolve,invoke,builtin,ha.opv hx,Builtin.clear_,ht.run,he.zero,hcl,qc0,hst,Result.andThen]
    · refine ⟨_,setRow_heap w b cur _ e _ hc,?_,?_⟩
      · simp only [List.size_toArray,List.length_append,List.length_take,List.length_drop,Array.length_toList,List.length_replicate]
        omega
      · rw [Ju (by simpa using hi)]
        show (List.take o cur.toList++List.replicate m z++List.drop (o+m) cur.toList).take l.length=zA l o (List.replicate m z)
        unfold zA
        have e1:l.take o=cur.toList.take o:=by rw [← htk,List.take_take]; congr 1; omega
        have e2:l.drop (o+(List.replicate m z).length)=(cur.toList.drop (o+m)).take (l.length-(o+m)):=by
          rw [List.length_replicate]
          conv=>lhs; rw [← htk]
          rw [List.drop_take]
        rw [e1,e2,List.append_assoc,List.append_assoc,List.take_append,List.take_append]
        simp only [List.length_take,List.length_replicate,Array.length_toList]
        congr 1
        · rw [List.take_take]; congr 1; omega
        · congr 1
          · exact List.take_of_length_le (by simp only [List.length_replicate]; omega)
          · congr 1; omega
end
end Go.Sl
namespace Go.Sl
open Go.RowKit
def WR (P:Program) (C:World→Prop) (K:Act→World→Prop) (n:Nat) (ops:Array Oper) (l:List Oper) (env:Env):Prop :=
  ∀ a,zI n env a→a.defers=[]→wpQuietIn (fen none) 0 P ops C (fun a'=>∀ w',C w'→K a' w') l a
section
variable {P:Program} {C:World→Prop} {K:Act→World→Prop} {n:Nat} {ops:Array Oper} {env:Env} {rest:List Oper} {op:Op} {ty:TypeId} {v:Value} {pos:String} {aft:Array Edge}
theorem qp7 (h:∀ a w,zI n env a→a.defers=[]→C w→K a w):WR P C K n ops [] env:=fun a ha hd w hw=>h a w ha hd hw
def Kret (P:Program) (C:World→Prop) (fn:Func) (v:Value):Act→World→Prop:=fun a w=>Code.ret.wpIn (fen none) 0 P (bodyPostM Fence.wide 0 P fn (fun e w'=>e=.returned v∧C w')) a w
theorem qmg {fn:Func} {d0:Nat} (hres:fn.results=#[.tmp d0]) (hv:look env d0=some v):WR P C (Kret P C fn v) n ops [] env:=qp7 fun a w ha hd hw=>by
  refine wpIn_ret ?_
  show LeavesInM _ _ _ _ _ _ a.defers _ _
  rw [hd]
  exact ⟨v,by rw [qev hres,ha.val _ _ hv],rfl,hw⟩
theorem JD {d:Nat} (hx:Ex P n env C op ty v) (hd:Nat.blt d n=true) (h:WR P C K n ops rest ((d,v)::env)):WR P C K n ops (⟨some d,op,ty,pos,aft,none⟩::rest) env:=fun a ha hds=>by
  refine ⟨fun _ _ _ _=>trivial,?_⟩
  rw [if_pos (by simp [Region.wanted])]
  exact ⟨v,fun w hs=>by
    unfold Oper.quietAtIn
    rw [hx a w (some d) pos aft none ha hs]
    exact ⟨rfl,rfl⟩,h _ (ha.put (d:=some d) hd) hds⟩
theorem qhe {d:Option Nat} {f:FuncId} {l:List Operand} {vs:List Value} {tys:Array TypeId} (hc:YO env l vs) (hf:∀ (args:Array Value) (w:World),(callFunc f args).run P w=.ok (.enter f args) w) (hd:dok n d=true)
    (hL:∀ w,C w→Calls P f vs.toArray w fun e w'=>e=.returned v∧w'=w) (h:WR P C K n ops rest (put d v env)):WR P C K n ops (⟨d,.call ⟨.value (.func f),l.toArray,tys⟩,ty,pos,aft,none⟩::rest) env:=fun a ha hds=>by
  refine ⟨fun _ _ _ _=>trivial,?_⟩
  rw [if_pos (by simp [Region.wanted])]
  refine ⟨v,fun w hs=>?_,h _ (ha.put hd) (by cases d <;> exact hds)⟩
  unfold Oper.quietAtIn
  have hl:l.map a.eval=vs:=ha.opvs hc
  rw [show (execOp a.eval ⟨d,.call ⟨.value (.func f),l.toArray,tys⟩,ty,pos,aft,none⟩).run P w=.ok (.enter f vs.toArray) w by
    simp [execOp,resolve,Act.eval,Deferred.ofValue,invoke,hl,hf,Result.andThen]]
  refine ⟨rfl,fun h=>by simp [Fence.wide] at h,?_⟩
  have hcl:CallsIn (fen none) 0 P f vs.toArray w _:=callsIn_wide.2 (hL w hs)
  exact hcl.mono fun e w'' ⟨he,hw⟩=>⟨by rw [he],by rw [hw]; exact hs⟩
theorem qhh {f:FuncId} {fn:Func} {id id2 d0:Nat} {v0:Value} {ty0:TypeId} {pos0:String} {aft0:Array Edge} {l:List Oper} {args:List Value} (hf:P.funcs[f]?=some fn)
    (hb:fn.body=some (.seq (.region id #[⟨some d0,.assign (.const v0),ty0,pos0,aft0,none⟩] false) (.seq (.region id2 l.toArray true) .ret))) (hn:fn.ntmps=n) (hl:Nat.ble args.length n=true) (he:KL 0 args=env) (hd0:Nat.blt d0 n=true)
    (hm:P.follows .mixedOrders=true) (hB:Region.lexB .any l.toArray=true) (hC:∀ w,C w→C w.drew) (h:WR P C (Kret P C fn v) n l.toArray l ((d0,v0)::env)) :
    ∀ w,C w→CallsIn Fence.wide 0 P f args.toArray w fun e w'=>e=.returned v∧C w':=by
  intro w hw
  refine callsIn_of_wp_marks hf hb trivial ?_
  refine wpIn_seq ?_
  have hl':args.length≤n:=by simpa using hl
  have ha:zI n env { tmps:=args.toArray++Array.replicate (fn.ntmps-args.toArray.size) undef,defers:=[] }:=by
    refine ⟨by simp [hn]; omega,fun x v hx=>?_⟩
    subst he
    obtain ⟨_,h2⟩:=XC args 0 x v hx
    have h3:x<args.length:=(List.getElem?_eq_some_iff.1 h2).1
    simp only [Array.getD_eq_getD_getElem?]
    rw [Array.getElem?_append_left (by simpa using h3)]
    simpa using congrArg (Option.getD · undef) h2
  have had:({ tmps:=args.toArray++Array.replicate (fn.ntmps-args.toArray.size) undef,defers:=[] }:Act).defers=[]:=rfl
  generalize ({ tmps:=args.toArray++Array.replicate (fn.ntmps-args.toArray.size) undef,defers:=[] }:Act)=a at ha had ⊢
  refine wpIn_region_lit (l:=[⟨some d0,.assign (.const v0),ty0,pos0,aft0,none⟩]) ?_
  unfold wpListIn
  rw [if_pos (by simp [Region.wanted])]
  refine ⟨fun _ _=>trivial,?_⟩
  rw [Oper.semAt_eq _ _ _ (fun _ h=>by cases h),show (execOp a.eval ⟨some d0,.assign (.const v0),ty0,pos0,aft0,none⟩).run P w=.ok (.value v0) w by simp [execOp,Act.eval],Oper.uponIn_value]
  have ha1:zI n ((d0,v0)::env) (a.put (some d0) v0):=ha.put (d:=some d0) hd0
  show (Code.seq (.region id2 l.toArray true) .ret).wpIn _ _ _ _ _ _
  refine wpIn_seq ?_
  refine wpIn_region_quiet (F:=fen none) (C:=C) rfl hm hB (hC w hw) ?_
  simp only [List.toList_toArray]
  exact h _ ha1 had
end
theorem Ex.mono {P:Program} {n:Nat} {env:Env} {C C':World→Prop} {op:Op} {ty:TypeId} {v:Value} (h:∀ w,C w→C' w) (hx:Ex P n env C' op ty v):Ex P n env C op ty v:=fun a w d pos aft g ha hw=>hx a w d pos aft g ha (h w hw)
theorem Sat.drewN {w0 w:World} {H:qg} (h:Sat w0 H w) (q:Nat):Sat w0 H (w.drewN q):=h.below' ⟨rfl,rfl,rfl,Nat.le_refl _,fun _ _=>rfl⟩
open Go.Proofs in
theorem JS {α:Type} [Inhabited α] {w0 w:World} {H:qg} {enc:α→Value} {e:TypeId} {b tot n:Nat} {d:List α} {d':Array α} {os:Array Obj} (hs:Sat w0 ((b,.cells e tot (d.map enc))::H) w) (hsz':d'.size=d.length) :
    Sat w0 ((b,.cells e tot (d'.toList.map enc))::H) (sortWorld enc w b 0 n d' os):=by
  obtain ⟨hb,c,hc,hcs,ht⟩:=hs.own (b,.cells e tot (d.map enc)) List.mem_cons_self
  have hs1:Sat w0 ((b,.cells e tot (d.map enc))::H) (Sort.ahead w n):=hs.below' ⟨rfl,rfl,rfl,Nat.le_refl _,fun _ _=>rfl⟩
  have hs2:Sat w0 ((b,.cells e tot (d'.toList.map enc))::H) (Sort.putRow enc (Sort.ahead w n) b 0 d'):=by
    refine hs1.upd (.head _) ⟨rfl,rfl,rfl,by simp [Sort.putRow,Sort.mapBlock],fun k hk=>?_⟩ (fun j hj _=>?_) ?_
    · simp only [Sort.putRow,Sort.mapBlock,Array.getElem?_modify]
      rw [if_neg (by omega)]
    · simp only [Sort.putRow,Sort.mapBlock,Array.getElem?_modify]
      rw [if_neg (fun e=>hj e.symm)]
    · refine ⟨Sort.putCells enc 0 d' c,?_,by simp [Sort.putCells,hcs],?_⟩
      · have hc':(Sort.ahead w n).heap[b]?=some (.cells c e (0,0)):=hc
        simp only [Sort.putRow,Sort.mapBlock,Array.getElem?_modify,if_true,hc',Option.map_some]
        rfl
      · have hle:d.length≤c.size:=by
          have:=congrArg List.length ht
          simp only [List.length_take,List.length_map,Array.length_toList] at this
          omega
        refine List.ext_getElem (by simp [Sort.putCells,hsz']; omega) fun i h1 h2=>?_
        have hi:i<d'.size:=by simpa using h2
        simp [Sort.putCells,hi]
  exact hs2.below' (by
    refine ⟨rfl,rfl,rfl,?_,fun k hk=>?_⟩
    · show _≤(_++os).size; simp
    · show (_++os)[k]?=_
      rw [Array.getElem?_append_left hk])
open Go.Proofs in
theorem qmo {α:Type} [Inhabited α] {P:Program} {w0:World} {H:qg} {f g:FuncId} {cb:Array Value} {enc:α→Value} {cf:α→α→Int} {e:TypeId} {b tot cap:Nat} {d:List α}
    (hcon:∀ w,Sat w0 ((b,.cells e tot (d.map enc))::H) w→Calls P f #[.slice (some ⟨b,0,none⟩) d.length cap,.func (.func g) #[] cb] w fun en w' =>
      en=.returned (.tuple #[])∧∃ d' n os,Go.Sort.PermIn 0 d.length d.toArray d'∧Go.Sort.SortedIn (ltOf cf) 0 d.length d'∧w'=sortWorld enc w b 0 n d' os) :
    qh P w0 f #[.slice (some ⟨b,0,none⟩) d.length cap,.func (.func g) #[] cb] ((b,.cells e tot (d.map enc))::H)
      (fun v H'=>v=.tuple #[]∧∃ d':List α,d'.Perm d∧(∀ (i j:Nat) x y,i<j→d'[i]?=some x→d'[j]?=some y→ltOf cf y x=false)∧H'=(b,.cells e tot (d'.map enc))::H):=fun w hs=>by
  refine (callsIn_wide.2 (hcon w hs)).mono ?_
  rintro en w' ⟨rfl,d',n,os,hp,hsrt,rfl⟩
  obtain ⟨hsz,_,hperm⟩:=hp
  have hsz':d'.size=d.length:=by simpa using hsz
  have e1:(d'.extract 0 d.length).toList=d'.toList:=by simp [← hsz']
  have e2:(d.toArray.extract 0 d.length).toList=d:=by simp
  rw [e1,e2] at hperm
  refine ⟨.tuple #[],(b,.cells e tot (d'.toList.map enc))::H,rfl,⟨rfl,d'.toList,hperm,fun i j x y hij hx hy=>?_,rfl⟩,JS hs hsz'⟩
  have hj:j<d'.size:=by simpa using (List.getElem?_eq_some_iff.1 hy).1
  have h1:=hsrt i j (Nat.zero_le _) hij (by omega)
  have ex:d'[i]! = x:=by
    have:d'[i]?=some x:=by simpa using hx
    simp [getElem!_def,this]
  have ey:d'[j]! = y:=by
    have:d'[j]?=some y:=by simpa using hy
    simp [getElem!_def,this]
  rwa [ex,ey] at h1
open Go.Proofs in
theorem qa5 {α:Type} [Inhabited α] {w0 w:World} {H:qg} {enc:α→Value} {e:TypeId} {b tot:Nat} {d:List α} (hs:Sat w0 ((b,.cells e tot (d.map enc))::H) w):Sort.Holds enc w b 0 d.toArray:=fun j hj=>by
  have hj':j<d.length:=by simpa using hj
  refine ⟨?_,hs.frozen List.mem_cons_self⟩
  rw [Nat.zero_add]
  refine hs.cell List.mem_cons_self ?_
  rw [List.getElem?_map,List.getElem?_eq_getElem hj']
  simp [hj']
open Go.Proofs in
theorem qgB {α:Type} (g:α→Int):Sort.SWO (ltOf fun x y=>Lib.compareInt (g x) (g y)):=by
  have e:∀ x y,ltOf (fun x y=>Lib.compareInt (g x) (g y)) x y=decide (g x<g y):=fun x y=>by
    unfold ltOf Lib.compareInt
    by_cases h1:g x<g y
    · simp [h1]
    · by_cases h2:g y<g x <;> simp [h1,h2]
  exact ⟨fun x=>by rw [e]; simp,fun x y z h1 h2=>by rw [e] at *; simp at *; omega,fun x y z h1 h2=>by rw [e] at *; simp at *; omega⟩
open Go.Proofs in
theorem qjG {α:Type} (g:α→Int) {x y:α} (h:ltOf (fun x y=>Lib.compareInt (g x) (g y)) x y=false):g y≤g x:=by
  unfold ltOf Lib.compareInt at h
  by_cases h1:g x<g y
  · simp [h1] at h
  · omega
end Go.Sl
namespace Go.Sl
open Go.RowKit
section
variable {P:Program} {w0:World} {Q:Exit→Act→World→Prop} {n:Nat} {ds:List Deferred} {k:List It} {env env':Env} {H H' Hc:qg} {ops:Array Oper} {s:Nat}
theorem qmf (i j:Nat) {o o':Oper} {fuel:Nat} {listed l' l'':Array Bool} (hh:qC H Hc) (his:Nat.beq i s=false) (hjs:Nat.beq j s=false) (hr:Region.ready .any ops listed=[i,j]) (hi:ops[i]?=some o) (hj:ops[j]?=some o') (hl:listed.setIfInBounds i true=l') (hl':listed.setIfInBounds j true=l'')
    (h:W P none w0 (fun _ _ _=>False) n ds [.ops ops [o],.goal (fun a w=>XK P ops (Sat w0 Hc) (Sat w0 []) (Q0 P Q k) s fuel l' a w)] env H)
    (h':W P none w0 (fun _ _ _=>False) n ds [.ops ops [o'],.goal (fun a w=>XK P ops (Sat w0 Hc) (Sat w0 []) (Q0 P Q k) s fuel l'' a w)] env H):WS P w0 Q n ds k ops Hc s (fuel+1) listed env H:=fun a w ha hds hsat=>by
  subst hl hl'
  have hi1:i≠s:=fun e=>by rw [e] at his; simp at his
  have hj1:j≠s:=fun e=>by rw [e] at hjs; simp at hjs
  refine ⟨hsat.hsub hh,fun h0=>(by rw [hr] at h0; cases h0),fun x hx _=>?_,fun hs=>?_⟩
  · rw [hr] at hx
    rcases (show x=i∨x=j by simpa using hx) with rfl | rfl
    · exact XY hi (h a w ha hds hsat)
    · exact XY hj (h' a w ha hds hsat)
  · rw [hr] at hs
    rcases (show s=i∨s=j by simpa using hs) with e | e
    · exact absurd e.symm hi1
    · exact absurd e.symm hj1
end
end Go.Sl
namespace Go.Sl
open Go.RowKit
section
variable {P:Program} {rd:Option Nat} {w0:World} {Q:Exit→Act→World→Prop} {n:Nat} {ds:List Deferred} {k:List It} {env env':Env} {H H':qg} {all:Array Oper} {rest:List Oper}
variable {d:Nat} {x y c:Operand} {t u ty:TypeId} {pos:String} {aft:Array Edge} {v:Value} {tys:Array TypeId}
theorem qmb {ad:Option Addr} {len cap l hh m s es by_ eb:Nat} {lo hi mx:Operand} {q1 q2 q3:IntKind} {e:TypeId} {z ez:Value} {ed:TypeDesc} (hx:opv env x=some (.slice ad len cap)) (ht:Ty P t (.slice e) s z by_) (he:Ty P e ed es ez eb)
    (hlo:opv env lo=some (.int q1 (l:Int))) (hhi:opv env hi=some (.int q2 (hh:Int))) (hmx:opv env mx=some (.int q3 (m:Int))) (h1:l≤hh) (h2:hh≤m) (h3:m≤cap) (hd:Nat.blt d n=true)
    (h:∀ v,W P rd w0 Q n ds (.ops all rest::k) ((d,v)::env) H):W P rd w0 Q n ds (.ops all (⟨some d,.slice t x (some lo) (some hi) (some mx),ty,pos,aft,none⟩::rest)::k) env H :=
  Qh (v:=.slice (if m=l then ad else ad.map (·.add (l*es))) (hh-l) (m-l)) rfl nofun hd (fun a w ha _=>by
    have hb:(Instr.sliceBounds true len cap (some (a.eval lo)) (some (a.eval hi)) (some (a.eval mx))).run P w=.ok (l,hh,m) w:=by
      simp [Instr.sliceBounds,ha.opv hlo,ha.opv hhi,ha.opv hmx,Instr.sliceBound,asIntOf,h1,h2,h3,Result.andThen]
    simp [execOp,ha.opv hx,Instr.sliceAt,Instr.slice,ht.run,hb,he.size,Result.andThen]) (h _)
theorem qgl {b len m cap kcap:Nat} {e:TypeId} {s sl bytes bl:Nat} {z zl:Value} {de:TypeDesc} {l news:List Value} {ad:Option Addr} (hx:opv env x=some (.slice (some ⟨b,0,none⟩) len cap)) (hy:opv env y=some (.slice ad m kcap)) (ht:Ty P t (.slice e) sl zl bl) (he:Ty P e de s z bytes) (hsz:0<s)
    (hm:(b,Blk.cells e (cap*s) l)∈H) (hl:news.length=m*s) (hnews:Holds w0 H ad news) (h1:news.all Value.oneCell'=true) (hlen:len*s≤l.length) (hroom:len+m≤cap) (hu:Upd b (.cells e (cap*s) l) (.cells e (cap*s) (l.take (len*s)++news)) H H') (hd:Nat.blt d n=true)
    (h:W P rd w0 Q n ds (.ops all rest::k) ((d,.slice (some ⟨b,0,none⟩) (len+m) cap)::env) H') :
    W P rd w0 Q n ds (.ops all (⟨some d,.call ⟨.builtin .append,#[x,y],#[t,t]⟩,ty,pos,aft,none⟩::rest)::k) env H :=
  J6 rfl nofun hd fun a w ha hs=>by
    obtain ⟨i,hi,hsize,hz,hby⟩:=he.info
    subst hsize
    obtain ⟨hb,cur,hc,hcs,htk⟩:=hs.own _ hm
    have hcap:len*i.size+news.length≤cap*i.size:=by
      rw [hl,← Nat.add_mul]; exact Nat.mul_le_mul_right _ hroom
    have key:(Builtin.append_ #[t,t] ty #[.slice (some ⟨b,0,none⟩) len cap,.slice ad m kcap]).run P w=.ok (.slice (some ⟨b,0,none⟩) (len+m) cap) (w.setRow b (cur.toList.take (len*i.size)++news++cur.toList.drop (len*i.size+news.length)).toArray):=by
      by_cases hm0:m=0
      · subst hm0
        have hn:news=[]:=List.eq_nil_of_length_eq_zero (by simpa using hl)
        subst hn
        have:(cur.toList.take (len*i.size)++[]++cur.toList.drop (len*i.size+([]:List Value).length)).toArray=cur:=by simp
        rw [this,setRow_self w b cur e (0,0) hc]
        have hlc:len≤cap:=by omega
        cases ad <;> simp [Builtin.append_,run_underlying ht.und,sizeOf,typeInfo,hi,Builtin.lenOf,Builtin.firstCells,loadCells,loadCellsFrom,hlc,storeCells]
      · have hpos:0<news.length:=by rw [hl]; exact Nat.mul_pos (by omega) hsz
        obtain ⟨b0,o0,hb0,_⟩:=hnews 0 _ (List.getElem?_eq_getElem hpos)
        subst hb0
        refine run_append_room (P:=P) w t ty e i ht.und hi b len cap cur hc ⟨b0,o0,none⟩ m kcap news hl (fun j u hu=>?_) (fun u hu=>List.all_eq_true.1 h1 u hu) hroom (by rw [hcs]; exact hcap)
        obtain ⟨b1,o1,e1,e2⟩:=hnews j u hu
        cases e1
        rw [Qr]
        exact e2 w hs
    refine ⟨_,H',_,.inl (by simp [execOp,resolve,invoke,builtin,ha.opv hx,ha.opv hy,key,Result.andThen]),hs.upd hu (ZO (cs:=(cur.toList.take (len*i.size)++news++cur.toList.drop (len*i.size+news.length)).toArray) hb) (fun j hj _=>setRow_other w b j _ hj) ?_,h⟩
    refine ⟨_,setRow_heap w b cur _ e _ hc,?_,?_⟩
    · simp only [List.size_toArray,List.length_append,List.length_take,List.length_drop,Array.length_toList]
      omega
    · have hcl:l.length≤cur.toList.length:=by
        have:=congrArg List.length htk
        simp only [List.length_take] at this
        omega
      have e1:l.take (len*i.size)=cur.toList.take (len*i.size):=by rw [← htk,List.take_take]; congr 1; omega
      show (cur.toList.take (len*i.size)++news++cur.toList.drop (len*i.size+news.length)).take (l.take (len*i.size)++news).length=l.take (len*i.size)++news
      rw [e1]
      exact List.take_left
theorem qgj {b o e m cap tot s sl bl bytes:Nat} {z zl:Value} {el:TypeId} {de:TypeDesc} {l:List Value} (hx:opv env x=some (.slice (some ⟨b,o,none⟩) m cap)) (ht:Ty P t (.slice el) sl zl bl) (he:Ty P el de s z bytes) (hzs:z.cells.size=s) (h1:z.cells.toList.all Value.oneCell'=true) (hsz:0<s)
    (hm:(b,Blk.cells e tot l)∈H) (ho:o≤l.length) (hi:o+m*s≤tot) (hu:Upd b (.cells e tot l) (.cells e tot (l.take o)) H H')
    (h:W P rd w0 Q n ds (.ops all rest::k) env H'):W P rd w0 Q n ds (.ops all (⟨none,.call ⟨.builtin .clear,#[x],#[t]⟩,ty,pos,aft,none⟩::rest)::k) env H :=
  J6 rfl nofun rfl fun a w ha hs=>by
    obtain ⟨hb,cur,hc,hcs,htk⟩:=hs.own _ hm
    have hcut:∀ {w':World} {cur':Array Value},w'.heap[b]?=some (.cells cur' e (0,0))→cur'.size=tot→cur'.toList.take o=cur.toList.take o→At w' b (.cells e tot (l.take o)):=fun h1 h2 h3=>by
      refine ⟨_,h1,h2,?_⟩
      rw [List.length_take,Nat.min_eq_left ho,h3,← htk,List.take_take,Nat.min_eq_left ho]
    by_cases hm0:m=0
    · subst hm0
      refine ⟨.tuple #[],H',w,.inl ?_,hs.upd hu (Below.refl _ _) (fun j hj _=>rfl) (hcut hc hcs rfl),h⟩
      simp [execOp,resolve,invoke,builtin,ha.opv hx,Builtin.clear_,ht.run,Result.andThen]
    · obtain ⟨m',rfl⟩:∃ m',m=m'+1:=⟨m-1,by omega⟩
      have hzl:(Builtin.zeroCells z.cells (m'+1)).toList.length=(m'+1)*s:=by rw [Array.length_toList,size_zeroCells,hzs]
      have hz1:∀ v∈(Builtin.zeroCells z.cells (m'+1)).toList,v.oneCell'=true:=fun v hv=>by
        simp only [Builtin.zeroCells,Array.toList_map,Array.toList_range,List.mem_map] at hv
        obtain ⟨i,_,rfl⟩:=hv
        have hlt:i%z.cells.size<z.cells.size:=Nat.mod_lt _ (by omega)
        rw [getElem!_pos z.cells _ hlt]
        exact List.all_eq_true.1 h1 _ (Array.getElem_mem_toList hlt)
      have hst:=run_storeCells_at P b o e (Builtin.zeroCells z.cells (m'+1)).toList 0 cur w hc (by rw [hzl,hcs]; omega) hz1
      simp only [Nat.add_zero] at hst
      refine ⟨.tuple #[],H',_,.inl ?_,hs.upd hu (ZO (cs:=(cur.toList.take o++(Builtin.zeroCells z.cells (m'+1)).toList++cur.toList.drop (o+(Builtin.zeroCells z.cells (m'+1)).toList.length)).toArray) hb) (fun j hj _=>setRow_other w b j _ hj) (hcut (setRow_heap w b cur _ e _ hc) ?_ ?_),h⟩
      · simp [execOp,resolve,invoke,builtin,ha.opv hx,Builtin.clear_,ht.run,he.zero,hst,Result.andThen]
      · simp only [List.size_toArray,List.length_append,List.length_take,List.length_drop,hzl,Array.length_toList]
        omega
      · have hoc:o≤cur.toList.length:=by rw [Array.length_toList,hcs]; omega
        show (cur.toList.take o++(Builtin.zeroCells z.cells (m'+1)).toList++cur.toList.drop _).take o=_
        rw [List.append_assoc,List.take_append_of_le_length (by rw [List.length_take]; omega),List.take_take,Nat.min_self]
end
end Go.Sl
namespace Go.Sl
open Go.RowKit
section
variable {P:Program} {rd:Option Nat} {w0:World} {Q:Exit→Act→World→Prop} {n:Nat} {ds:List Deferred} {k:List It} {env env':Env} {H H':qg} {all:Array Oper} {rest:List Oper} {d:Nat} {x y:Operand} {t ty:TypeId} {pos:String} {aft:Array Edge} {v:Value}
theorem qir {cs:Array Value} {vs:List Value} {j s by_ len es eb:Nat} {q:IntKind} {i:Int} {e:TypeId} {z ez:Value} {ed:TypeDesc} (hx:opv env x=some (.agg cs)) (hy:opv env y=some (.int q i)) (ht:Ty P t (.array len e) s z by_) (he:Ty P e ed es ez eb) (hf:Kn ed=false) (hi:i=(j:Int)) (hj:j<len)
    (hr:(cs.toList.drop (j*es)).take es=vs) (hd:Nat.blt d n=true)
    (h:W P rd w0 Q n ds (.ops all rest::k) ((d,.agg vs.toArray)::env) H):W P rd w0 Q n ds (.ops all (⟨some d,.index t x y,ty,pos,aft,none⟩::rest)::k) env H :=
  Qh rfl nofun hd (fun a w ha _=>by
    subst hi hr
    have e2:cs.extract (j*es) (j*es+es)=((cs.toList.drop (j*es)).take es).toArray:=by
      apply Array.ext'
      rw [Array.toList_extract,List.extract_eq_take_drop]
      congr 1; omega
    simp [execOp,Instr.index,ha.opv hx,ha.opv hy,asIntOf,ht.run,he.size,he.isAgg,hf,part,hj,Result.andThen,e2]) h
end
end Go.Sl
