/-
  Own work: a small logic for walking through a function's code: facts on slots, owned blocks of memory, and its rules; of any program.
-/
import Derived.Test.YtincjohoncljoaaGreatDoorLfS2
import Derived.Test.YtincjohoncljoaaGreatDoorLfS1
set_option linter.all false
set_option linter.unusedSimpArgs false
set_option linter.unusedVariables false
namespace Go.Sl
open Go.RowKit
section
variable {P:Program} {rd:Option Nat} {w0:World} {Q:Exit→Act→World→Prop} {n:Nat} {ds:List Deferred} {k:List It} {env env':Env} {H H':Heap} {all:Array Oper} {rest:List Oper}
variable {d:Nat} {x y c:Operand} {t u ty:TypeId} {pos:String} {aft:Array Edge} {v:Value} {tys:Array TypeId}
theorem W_slice3 {ad:Option Addr} {len cap l hh m s es by_ eb:Nat} {lo hi mx:Operand} {q1 q2 q3:IntKind} {e:TypeId} {z ez:Value} {ed:TypeDesc} (hx:opv env x=some (.slice ad len cap)) (ht:Ty P t (.slice e) s z by_) (he:Ty P e ed es ez eb)
    (hlo:opv env lo=some (.int q1 (l:Int))) (hhi:opv env hi=some (.int q2 (hh:Int))) (hmx:opv env mx=some (.int q3 (m:Int))) (h1:l≤hh) (h2:hh≤m) (h3:m≤cap) (hd:Nat.blt d n=true)
    (h:∀ v,W P rd w0 Q n ds (.ops all rest::k) ((d,v)::env) H):W P rd w0 Q n ds (.ops all (⟨some d,.slice t x (some lo) (some hi) (some mx),ty,pos,aft,none⟩::rest)::k) env H :=
  W_pure (v:=.slice (if m=l then ad else ad.map (·.add (l*es))) (hh-l) (m-l)) rfl nofun hd (fun a w ha _=>by
    have hb:(Instr.sliceBounds true len cap (some (a.eval lo)) (some (a.eval hi)) (some (a.eval mx))).run P w=.ok (l,hh,m) w:=by
      simp [Instr.sliceBounds,ha.opv hlo,ha.opv hhi,ha.opv hmx,Instr.sliceBound,asIntOf,h1,h2,h3,Result.andThen]
    simp [execOp,ha.opv hx,Instr.sliceAt,Instr.slice,ht.run,hb,he.size,Result.andThen]) (h _)
theorem W_appendIn {b len m cap kcap:Nat} {e:TypeId} {s sl bytes bl:Nat} {z zl:Value} {de:TypeDesc} {l news:List Value} {ad:Option Addr} (hx:opv env x=some (.slice (some ⟨b,0,none⟩) len cap)) (hy:opv env y=some (.slice ad m kcap)) (ht:Ty P t (.slice e) sl zl bl) (he:Ty P e de s z bytes) (hsz:0<s)
    (hm:(b,Blk.cells e (cap*s) l)∈H) (hl:news.length=m*s) (hnews:Holds w0 H ad news) (h1:news.all Value.oneCell'=true) (hlen:len*s≤l.length) (hroom:len+m≤cap) (hu:Upd b (.cells e (cap*s) l) (.cells e (cap*s) (l.take (len*s)++news)) H H') (hd:Nat.blt d n=true)
    (h:W P rd w0 Q n ds (.ops all rest::k) ((d,.slice (some ⟨b,0,none⟩) (len+m) cap)::env) H') :
    W P rd w0 Q n ds (.ops all (⟨some d,.call ⟨.builtin .append,#[x,y],#[t,t]⟩,ty,pos,aft,none⟩::rest)::k) env H :=
  W_gen rfl nofun hd fun a w ha hs=>by
    obtain ⟨i,hi,hsize,hz,hby⟩:=he.info
    subst hsize
    obtain ⟨hb,cur,hc,hcs,htk⟩:=hs.own _ hm
    have hcap:len*i.size+news.length≤cap*i.size:=by
      rw [hl,← Nat.add_mul]; exact Nat.mul_le_mul_right _ hroom
    have key:(Builtin.append_ #[t,t] ty #[.slice (some ⟨b,0,none⟩) len cap,.slice ad m kcap]).run P w=.ok (.slice (some ⟨b,0,none⟩) (len+m) cap) (w.setRow b (cur.toList.take (len*i.size)++news++cur.toList.drop (len*i.size+news.length)).toArray):=by
      by_cases hm0:m=0
      · subst hm0
        have hn:news=[]:=List.eq_nil_of_length_eq_zero (by simpa using hl)
        subst hn
        have:(cur.toList.take (len*i.size)++[]++cur.toList.drop (len*i.size+([]:List Value).length)).toArray=cur:=by simp
        rw [this,setRow_self w b cur e (0,0) hc]
        have hlc:len≤cap:=by omega
        cases ad <;> simp [Builtin.append_,run_underlying ht.und,sizeOf,typeInfo,hi,Builtin.lenOf,Builtin.firstCells,loadCells,loadCellsFrom,hlc,storeCells]
      · have hpos:0<news.length:=by rw [hl]; exact Nat.mul_pos (by omega) hsz
        obtain ⟨b0,o0,hb0,_⟩:=hnews 0 _ (List.getElem?_eq_getElem hpos)
        subst hb0
        refine run_append_room (P:=P) w t ty e i ht.und hi b len cap cur hc ⟨b0,o0,none⟩ m kcap news hl (fun j u hu=>?_) (fun u hu=>List.all_eq_true.1 h1 u hu) hroom (by rw [hcs]; exact hcap)
        obtain ⟨b1,o1,e1,e2⟩:=hnews j u hu
        cases e1
        rw [addr_add]
        exact e2 w hs
    refine ⟨_,H',_,.inl (by simp [execOp,resolve,invoke,builtin,ha.opv hx,ha.opv hy,key,Result.andThen]),hs.upd hu (setRow_below (cs:=(cur.toList.take (len*i.size)++news++cur.toList.drop (len*i.size+news.length)).toArray) hb) (fun j hj _=>setRow_other w b j _ hj) ?_,h⟩
    refine ⟨_,setRow_heap w b cur _ e _ hc,?_,?_⟩
    · simp only [List.size_toArray,List.length_append,List.length_take,List.length_drop,Array.length_toList]
      omega
    · have hcl:l.length≤cur.toList.length:=by
        have:=congrArg List.length htk
        simp only [List.length_take] at this
        omega
      have e1:l.take (len*i.size)=cur.toList.take (len*i.size):=by rw [← htk,List.take_take]; congr 1; omega
      show (cur.toList.take (len*i.size)++news++cur.toList.drop (len*i.size+news.length)).take (l.take (len*i.size)++news).length=l.take (len*i.size)++news
      rw [e1]
      exact List.take_left
theorem W_clearCut {b o e m cap tot s sl bl bytes:Nat} {z zl:Value} {el:TypeId} {de:TypeDesc} {l:List Value} (hx:opv env x=some (.slice (some ⟨b,o,none⟩) m cap)) (ht:Ty P t (.slice el) sl zl bl) (he:Ty P el de s z bytes) (hzs:z.cells.size=s) (h1:z.cells.toList.all Value.oneCell'=true) (hsz:0<s)
    (hm:(b,Blk.cells e tot l)∈H) (ho:o≤l.length) (hi:o+m*s≤tot) (hu:Upd b (.cells e tot l) (.cells e tot (l.take o)) H H')
    (h:W P rd w0 Q n ds (.ops all rest::k) env H'):W P rd w0 Q n ds (.ops all (⟨none,.call ⟨.builtin .clear,#[x],#[t]⟩,ty,pos,aft,none⟩::rest)::k) env H :=
  W_gen rfl nofun rfl fun a w ha hs=>by
    obtain ⟨hb,cur,hc,hcs,htk⟩:=hs.own _ hm
    have hcut:∀ {w':World} {cur':Array Value},w'.heap[b]?=some (.cells cur' e (0,0))→cur'.size=tot→cur'.toList.take o=cur.toList.take o→At w' b (.cells e tot (l.take o)):=fun h1 h2 h3=>by
      refine ⟨_,h1,h2,?_⟩
      rw [List.length_take,Nat.min_eq_left ho,h3,← htk,List.take_take,Nat.min_eq_left ho]
    by_cases hm0:m=0
    · subst hm0
      refine ⟨.tuple #[],H',w,.inl ?_,hs.upd hu (Below.refl _ _) (fun j hj _=>rfl) (hcut hc hcs rfl),h⟩
      simp [execOp,resolve,invoke,builtin,ha.opv hx,Builtin.clear_,ht.run,Result.andThen]
    · obtain ⟨m',rfl⟩:∃ m',m=m'+1:=⟨m-1,by omega⟩
      have hzl:(Builtin.zeroCells z.cells (m'+1)).toList.length=(m'+1)*s:=by rw [Array.length_toList,size_zeroCells,hzs]
      have hz1:∀ v∈(Builtin.zeroCells z.cells (m'+1)).toList,v.oneCell'=true:=fun v hv=>by
        simp only [Builtin.zeroCells,Array.toList_map,Array.toList_range,List.mem_map] at hv
        obtain ⟨i,_,rfl⟩:=hv
        have hlt:i%z.cells.size<z.cells.size:=Nat.mod_lt _ (by omega)
        rw [getElem!_pos z.cells _ hlt]
        exact List.all_eq_true.1 h1 _ (Array.getElem_mem_toList hlt)
      have hst:=run_storeCells_at P b o e (Builtin.zeroCells z.cells (m'+1)).toList 0 cur w hc (by rw [hzl,hcs]; omega) hz1
      simp only [Nat.add_zero] at hst
      refine ⟨.tuple #[],H',_,.inl ?_,hs.upd hu (setRow_below (cs:=(cur.toList.take o++(Builtin.zeroCells z.cells (m'+1)).toList++cur.toList.drop (o+(Builtin.zeroCells z.cells (m'+1)).toList.length)).toArray) hb) (fun j hj _=>setRow_other w b j _ hj) (hcut (setRow_heap w b cur _ e _ hc) ?_ ?_),h⟩
      · simp [execOp,resolve,invoke,builtin,ha.opv hx,Builtin.clear_,ht.run,he.zero,hst,Result.andThen]
      · simp only [List.size_toArray,List.length_append,List.length_take,List.length_drop,hzl,Array.length_toList]
        omega
      · have hoc:o≤cur.toList.length:=by rw [Array.length_toList,hcs]; omega
        show (cur.toList.take o++(Builtin.zeroCells z.cells (m'+1)).toList++cur.toList.drop _).take o=_
        rw [List.append_assoc,List.take_append_of_le_length (by rw [List.length_take]; omega),List.take_take,Nat.min_self]
end
end Go.Sl
namespace Go.Sl
open Go.RowKit
section
variable {P:Program} {rd:Option Nat} {w0:World} {Q:Exit→Act→World→Prop} {n:Nat} {ds:List Deferred} {k:List It} {env env':Env} {H H':Heap} {all:Array Oper} {rest:List Oper} {d:Nat} {x y:Operand} {t ty:TypeId} {pos:String} {aft:Array Edge} {v:Value}
theorem W_indexAg {cs:Array Value} {vs:List Value} {j s by_ len es eb:Nat} {q:IntKind} {i:Int} {e:TypeId} {z ez:Value} {ed:TypeDesc} (hx:opv env x=some (.agg cs)) (hy:opv env y=some (.int q i)) (ht:Ty P t (.array len e) s z by_) (he:Ty P e ed es ez eb) (hf:flat ed=false) (hi:i=(j:Int)) (hj:j<len)
    (hr:(cs.toList.drop (j*es)).take es=vs) (hd:Nat.blt d n=true)
    (h:W P rd w0 Q n ds (.ops all rest::k) ((d,.agg vs.toArray)::env) H):W P rd w0 Q n ds (.ops all (⟨some d,.index t x y,ty,pos,aft,none⟩::rest)::k) env H :=
  W_pure rfl nofun hd (fun a w ha _=>by
    subst hi hr
    have e2:cs.extract (j*es) (j*es+es)=((cs.toList.drop (j*es)).take es).toArray:=by
      apply Array.ext'
      rw [Array.toList_extract,List.extract_eq_take_drop]
      congr 1; omega
    simp [execOp,Instr.index,ha.opv hx,ha.opv hy,asIntOf,ht.run,he.size,he.isAgg,hf,part,hj,Result.andThen,e2]) h
end
end Go.Sl
