/-
  Own work: a small logic for walking through a function's code: facts on slots, owned blocks of memory, and its rules; of any program.
-/
import Derived.Test.YtcggkokeggfdkaaGreatDoorKpS2
set_option linter.all false
set_option linter.unusedSimpArgs false
set_option linter.unusedVariables false
namespace Go.Sl.Ev
open Go.RowKit
structure Ag (ρ:Rho) (n:Nat) (E:qp) (a:Act):Prop where
  size:a.tmps.size=n
  len:E.n=n
  val:∀ x v,E.get x=some v→AV.R ρ v (a.tmps.getD x undef)
noncomputable def lift:Value→AV
  | .agg cs=>.ag (cs.toList.map .vl)
  | .tuple cs=>.tu (cs.toList.map .vl)
  | x=>.vl x
theorem JF {ρ:Rho} (x:Value):AV.R ρ (lift x) x:=by
  cases x <;> first | rfl | exact ⟨_,rfl,AV.Rs.vs _⟩
noncomputable def opr (E:qp):Operand→Option AV
  | .tmp t=>E.get t
  | .const c=>some (lift c)
  | .global _=>none
  | .func f=>some (.fn f [] [])
theorem Ag.opr {ρ:Rho} {n:Nat} {E:qp} {a:Act} (h:Ag ρ n E a) {x:Operand} {v:AV} (hx:opr E x=some v):AV.R ρ v (a.eval x):=by
  cases x with
  | tmp t=>exact h.val t _ hx
  | const c=>cases hx; exact JF c
  | global g=>cases hx
  | func f=>cases hx; exact ⟨#[],#[],rfl,trivial,trivial⟩
noncomputable def oprs (E:qp):List Operand→Option (List AV)
  | []=>some []
  | x::l=>match opr E x with
    | some v=>match oprs E l with
      | some vs=>some (v::vs)
      | none=>none
    | none=>none
theorem Ag.oprs {ρ:Rho} {n:Nat} {E:qp} {a:Act} (h:Ag ρ n E a):∀ {l:List Operand} {vs:List AV},oprs E l=some vs→AV.Rs ρ vs (l.map a.eval)
  | [],_,hx=>by cases hx; trivial
  | x::l,vs,hx=>by
    simp only [Ev.oprs] at hx
    split at hx
    · rename_i v hv
      split at hx
      · rename_i us hu
        cases hx
        exact ⟨h.opr hv,h.oprs hu⟩
      · cases hx
    · cases hx
theorem Ag.mono {ρ ρ':Rho} {n:Nat} {E:qp} {a:Act} (h:Ag ρ n E a) (hp:ρ <+: ρ'):Ag ρ' n E a:=⟨h.size,h.len,fun x v hx=>(h.val x v hx).mono hp⟩
noncomputable def setL {α:Type} (l:List α):Nat→α→List α:=List.rec (motive:=fun _=>Nat→α→List α) (fun _ _=>[]) (fun x l ih i y=>Nat.casesOn (motive:=fun _=>List α) i (y::l) (fun j=>consS x (ih j y))) l
theorem KK {α:Type}:∀ (l:List α) (i:Nat) (y:α),setL l i y=l.set i y
  | [],_,_=>rfl
  | _::_,0,_=>rfl
  | x::l,i+1,y=>by show consS x (setL l i y)=_; rw [Yp,KK l i y]; rfl
noncomputable def setE (E:qp):Option Nat→AV→qp
  | some d,v=>E.set d v
  | none,_=>E
theorem Ag.put {ρ:Rho} {n:Nat} {E:qp} {a:Act} (h:Ag ρ n E a) {v:AV} {u:Value} (hv:AV.R ρ v u) (d:Option Nat):Ag ρ n (setE E d v) (a.put d u):=by
  cases d with
  | none=>exact h
  | some d =>
    refine ⟨by simp [Act.put,h.size],by simp [setE,qp.set_n,h.len],fun x v' hx=>?_⟩
    have old:E.get x=some v'→d≠x∨¬ d<n→AV.R ρ v' ((a.put (some d) u).tmps.getD x undef):=fun hx hd=>by
      have:=h.val x v' hx
      by_cases e:d=x
      · subst e
        have:=(qp.get_lt hx).1
        rw [h.len] at this
        rcases hd with hd | hd
        · exact absurd rfl hd
        · exact absurd this hd
      · simp only [Act.put,Array.getD_eq_getD_getElem?] at this ⊢
        rw [Array.getElem?_setIfInBounds_ne e]
        exact this
    rcases qp.get_set hx with ⟨rfl,rfl,hlt⟩ | ⟨e,hx⟩ | ⟨e,hx⟩ | ⟨e,hx⟩
    · rw [h.len] at hlt
      have:(a.put (some d) u).tmps.getD d undef=u:=by simp [Act.put,Array.getD_eq_getD_getElem?,h.size,hlt]
      rw [this]; exact hv
    · exact old hx (.inl e)
    · exact old hx (.inr (by rw [← h.len]; exact e))
    · refine old hx (.inl fun e2=>?_)
      subst e2
      exact e (qp.get_lt hx).2
section
variable (P:Program)
noncomputable def szOf (t:TypeId):Option Nat:=match P.info? t with
  | some i=>some i.size
  | none=>none
noncomputable def flOf (t:TypeId):Option Bool:=match P.underlying t with
  | some d=>some (ZS d)
  | none=>none
noncomputable def zrOf (t:TypeId):Option Value:=match P.info? t with
  | some i=>i.zero
  | none=>none
end
section
variable {P:Program} {t:TypeId}
theorem zB {n:Nat} (h:szOf P t=some n) (w:World):(sizeOf t).run P w=.ok n w:=by
  unfold szOf at h
  split at h
  · rename_i i hi; cases h; simp [sizeOf,typeInfo,hi,Result.andThen]
  · cases h
theorem JB {b:Bool} (h:flOf P t=some b) (w:World):(isAgg t).run P w=.ok (!b) w:=by
  unfold flOf at h
  split at h
  · rename_i d hd; cases h
    have:=run_underlying hd w
    cases d <;> simp [Go.isAgg,this,Result.andThen,ZS]
  · cases h
theorem YC {z:Value} (h:zrOf P t=some z) (w:World):(zeroValue t).run P w=.ok z w:=by
  unfold zrOf at h
  split at h
  · rename_i i hi; simp [zeroValue,typeInfo,hi,Result.andThen,h]
  · cases h
end
end Go.Sl.Ev
namespace Go.Sl.Ev
open Go.RowKit
noncomputable def Same (ρ:Rho) (L:List (Nat × Nat)) (w w':World):Prop:=∀ x∈L,∀ r c,ρ[x.1]?=some (r,c)→w'.cell? ⟨r,x.2,none⟩=w.cell? ⟨r,x.2,none⟩
noncomputable def Reads (P:Program) (ρ:Rho) (a:Act) (w:World) (L:List (Nat × Nat)) (op:Op) (v:AV):Prop :=
  ∃ u,AV.R ρ v u∧∀ d ty pos aft g w',Same ρ L w w'→(execOp a.eval ⟨d,op,ty,pos,aft,g⟩).run P w'=.ok (.value u) w'
noncomputable def idx:AV→Option Nat
  | .vl (.int _ (.ofNat i))=>some i
  | _=>none
theorem Z9 {ρ:Rho} {x:AV} {y:Value} {i:Nat} (h:idx x=some i) (hr:AV.R ρ x y):∃ q,y=.int q (i:Int):=by
  unfold idx at h
  split at h
  · cases h; exact ⟨_,hr⟩
  · cases h
noncomputable def fldOf (P:Program) (t:TypeId) (f:Nat):Option (Nat × Nat × Bool):=match P.underlying t with
  | some (.struct fs)=>match nth fs.toList f with
    | some fd=>match szOf P fd.type,flOf P fd.type with
      | some s,some b=>some (fd.offset,s,b)
      | _,_=>none
    | none=>none
  | _=>none
theorem XV {P:Program} {t:TypeId} {f o s:Nat} {b:Bool} (h:fldOf P t f=some (o,s,b)):∃ fs fd,P.underlying t=some (.struct fs)∧fs[f]?=some fd∧fd.offset=o∧szOf P fd.type=some s∧flOf P fd.type=some b:=by
  unfold fldOf at h
  split at h
  · rename_i fs hfs
    split at h
    · rename_i fd hfd
      split at h
      · rename_i s' b' hs hb
        cases h
        exact ⟨fs,fd,hfs,by rw [Zf] at hfd; simpa using hfd,rfl,hs,hb⟩
      · cases h
    · cases h
  · cases h
noncomputable def bitsA (op:BinOp) (q:IntKind) (i j:Int):Value:=.int q (Go.Sl.bitsOf op q i j)
noncomputable def intOp (op:BinOp) (q:IntKind) (i j:Int):Option Value :=
  match op with
  | .add=>some (.int q (q.wrap (i+j)))
  | .sub=>some (.int q (q.wrap (i-j)))
  | .mul=>some (.int q (q.wrap (i*j)))
  | .quo=>bif decide (j=0) then none else some (.int q (q.wrap (i.tdiv j)))
  | .rem=>bif decide (j=0) then none else some (.int q (i.tmod j))
  | .and=>some (bitsA .and q i j)
  | .or=>some (bitsA .or q i j)
  | .xor=>some (bitsA .xor q i j)
  | .andNot=>some (bitsA .andNot q i j)
  | .eql=>some (.bool (decide (i=j)))
  | .neq=>some (.bool (decide (i≠j)))
  | .lss=>some (.bool (decide (i<j)))
  | .leq=>some (.bool (decide (i≤j)))
  | .gtr=>some (.bool (decide (j<i)))
  | .geq=>some (.bool (decide (j≤i)))
  | _=>none
noncomputable def shOp (op:BinOp) (q:IntKind) (i j:Int):Option Value :=
  bif decide (j<0) then none else match op with
  | .shl=>some (.int q (q.wrap (i*2 ^ (min j.toNat q.bits))))
  | .shr=>some (.int q (i.fdiv (2 ^ (min j.toNat q.bits))))
  | _=>none
theorem qbp {op:BinOp} {q:IntKind} {i j:Int} {v:Value} (h:intOp op q i j=some v) (t:TypeId) (P:Program) (w:World):(Go.binOp op t (.int q i) (.int q j)).run P w=.ok v w:=by
  have nz:∀ {x y:Option Value},(bif decide (j=0) then none else x)=some v→j≠0∧x=some v:=fun h=>by
    by_cases e:j=0
    · simp [e] at h
    · simpa [e] using h
  cases op with
  | add=>cases h; exact qX rfl P w
  | sub=>cases h; exact Jx rfl P w
  | mul=>cases h; exact qhk rfl P w
  | and=>cases h; exact qe3 rfl P w
  | or=>cases h; exact qbE rfl P w
  | xor=>cases h; exact b_xor rfl P w
  | andNot=>cases h; exact qe2 rfl P w
  | eql=>cases h; exact qhn P w
  | neq=>cases h; exact qhj P w
  | lss=>cases h; exact qhl P w
  | leq=>cases h; exact qe0 P w
  | gtr=>cases h; exact qe1 P w
  | geq=>cases h; exact qhm P w
  | quo=>simp only [intOp] at h; obtain ⟨h0,h⟩:=nz (y:=none) h; cases h; exact b_quo h0 rfl P w
  | rem=>simp only [intOp] at h; obtain ⟨h0,h⟩:=nz (y:=none) h; cases h; exact qeZ h0 rfl P w
  | _=>cases h
theorem qcJ {op:BinOp} {q q':IntKind} {i j:Int} {v:Value} (h:shOp op q i j=some v) (t:TypeId) (P:Program) (w:World):(Go.binOp op t (.int q i) (.int q' j)).run P w=.ok v w:=by
  unfold shOp at h
  by_cases e:j<0
  · simp [e] at h
  · simp only [e,decide_false,cond_false] at h
    cases op with
    | shl=>cases h; exact X6 (by omega) rfl P w
    | shr=>cases h; exact qeY (by omega) rfl P w
    | _=>cases h
end Go.Sl.Ev
namespace Go.Sl.Ev
open Go.RowKit
section
variable {P:Program} {ρ:Rho} {n:Nat} {E:qp} {a:Act} {w w0:World} {s:St} {v:AV}
theorem qfC (ha:Ag ρ n E a) {x:Operand} (h:opr E x=some v):Reads P ρ a w [] (.move x) v :=
  ⟨_,ha.opr h,fun _ _ _ _ _ w' _=>by simp [execOp]⟩
theorem qcS (ha:Ag ρ n E a) {x:Operand} (h:opr E x=some v):Reads P ρ a w [] (.assign x) v :=
  ⟨_,ha.opr h,fun _ _ _ _ _ w' _=>by simp [execOp]⟩
noncomputable def oExtract (E:qp) (x:Operand) (i:Nat):Option AV:=match opr E x with
  | some (.tu l)=>nth l i
  | _=>none
theorem qbc (ha:Ag ρ n E a) {x:Operand} {i:Nat} (h:oExtract E x i=some v):Reads P ρ a w [] (.extract x i) v:=by
  unfold oExtract at h
  split at h
  · rename_i l hl
    obtain ⟨l',e,hr⟩:=ha.opr hl
    rw [Zf] at h
    obtain ⟨u,hu,hR⟩:=hr.at h
    exact ⟨u,hR,fun _ _ _ _ _ w' _=>by
      have:l'[i]?=some u:=by simpa using hu
      simp [execOp,e,Instr.extract,this]⟩
  · cases h
noncomputable def oNil (E:qp) (x:Operand):Option AV:=match opr E x with
  | some (.pt b i)=>some (.pt b i)
  | some (.fn g f c)=>some (.fn g f c)
  | _=>none
theorem qhE (ha:Ag ρ n E a) {x:Operand} (h:oNil E x=some v):Reads P ρ a w [] (.nilCheck x) v:=by
  unfold oNil at h
  split at h
  · rename_i b i hx
    cases h
    have hr:=ha.opr hx
    obtain ⟨r,c,h1,e⟩:=hr
    exact ⟨_,⟨r,c,h1,rfl⟩,fun _ _ _ _ _ w' _=>by simp [execOp,e]⟩
  · rename_i g f c hx
    cases h
    obtain ⟨f',c',e,h2,h3⟩:=ha.opr hx
    exact ⟨_,⟨f',c',rfl,h2,h3⟩,fun _ _ _ _ _ w' _=>by simp [execOp,e]⟩
  · cases h
noncomputable def oPick (E:qp) (c x y:Operand):Option AV:=match opr E c with
  | some (.vl (.bool true))=>opr E x
  | some (.vl (.bool false))=>opr E y
  | _=>none
theorem qfB (ha:Ag ρ n E a) {c x y:Operand} (h:oPick E c x y=some v):Reads P ρ a w [] (.pick c x y) v:=by
  unfold oPick at h
  split at h
  · rename_i hc
    have e:a.eval c=.bool true:=ha.opr hc
    exact ⟨_,ha.opr h,fun _ _ _ _ _ w' _=>by simp [execOp,e,asBool,Result.andThen]⟩
  · rename_i hc
    have e:a.eval c=.bool false:=ha.opr hc
    exact ⟨_,ha.opr h,fun _ _ _ _ _ w' _=>by simp [execOp,e,asBool,Result.andThen]⟩
  · cases h
noncomputable def oFA (P:Program) (E:qp) (t:TypeId) (x:Operand) (f:Nat):Option AV:=match opr E x with
  | some (.pt b i)=>match fldOf P t f with
    | some (o,s,_)=>bif Nat.beq s 0 then none else some (.pt b (i+o))
    | none=>none
  | _=>none
theorem rd_fa (ha:Ag ρ n E a) {t:TypeId} {x:Operand} {f:Nat} (h:oFA P E t x f=some v):Reads P ρ a w [] (.fieldAddr t x f) v:=by
  unfold oFA at h
  split at h
  · rename_i b i hx
    split at h
    · rename_i o s g hf
      cases hb:Nat.beq s 0 with
      | true=>rw [hb] at h; cases h
      | false =>
        rw [hb] at h; cases h
        obtain ⟨r,c,h1,e⟩:=ha.opr hx
        obtain ⟨fs,fd,e1,e2,rfl,e4,e5⟩:=XV hf
        have h0:s≠0:=fun e=>by subst e; cases hb
        exact ⟨_,⟨r,c,h1,rfl⟩,fun _ _ _ _ _ w' _=>by
          simp [execOp,e,Instr.fieldAt,run_underlying e1,e2,Instr.sureAddr,fieldPlace,zB e4,h0,Result.andThen,qx]⟩
    · cases h
  · cases h
noncomputable def partA (l:List AV) (o s:Nat) (fl:Bool):Option AV:=bif fl then nth l o else bif Nat.ble (o+s) l.length then some (.ag ((l.drop o).take s)) else none
theorem Kv {t:TypeId} {l:List AV} {l':Array Value} {o sz:Nat} {fl:Bool} (hs:szOf P t=some sz) (hf:flOf P t=some fl) (hr:AV.Rs ρ l l'.toList) (h:partA l o sz fl=some v):∃ u,AV.R ρ v u∧∀ w',(part t l' o).run P w'=.ok u w':=by
  unfold partA at h
  cases fl with
  | true =>
    simp only [cond_true] at h
    rw [Zf] at h
    obtain ⟨u,hu,hR⟩:=hr.at h
    exact ⟨u,hR,fun w'=>by
      have:l'[o]?=some u:=by simpa using hu
      simp [part,JB hf,this,Result.andThen]⟩
  | false =>
    simp only [cond_false] at h
    cases hb:Nat.ble (o+sz) l.length with
    | false=>rw [hb] at h; cases h
    | true =>
      rw [hb] at h; cases h
      refine ⟨.agg (l'.extract o (o+sz)),⟨_,rfl,?_⟩,fun w'=>by simp [part,JB hf,zB hs,Result.andThen]⟩
      have:=(hr.drop o).take sz
      simpa [Array.toList_extract,List.extract] using this
noncomputable def oField (P:Program) (E:qp) (t:TypeId) (x:Operand) (f:Nat):Option AV:=match opr E x with
  | some (.ag l)=>match fldOf P t f with
    | some (o,s,b)=>partA l o s b
    | none=>none
  | _=>none
theorem qdO (ha:Ag ρ n E a) {t:TypeId} {x:Operand} {f:Nat} (h:oField P E t x f=some v):Reads P ρ a w [] (.field t x f) v:=by
  unfold oField at h
  split at h
  · rename_i l hx
    split at h
    · rename_i o s g hf
      obtain ⟨l',e,hr⟩:=ha.opr hx
      obtain ⟨fs,fd,e1,e2,rfl,e4,e5⟩:=XV hf
      obtain ⟨u,hu,hrun⟩:=Kv e4 e5 hr h
      exact ⟨u,hu,fun _ _ _ _ _ w' _=>by simp [execOp,e,Instr.field,run_underlying e1,e2,asAgg,hrun,Result.andThen]⟩
    · cases h
  · cases h
noncomputable def oFunc (E:qp) (g:FuncId) (fl cl:List Operand):Option AV:=match oprs E fl with
  | some f=>match oprs E cl with
    | some c=>some (.fn g f c)
    | none=>none
  | none=>none
theorem qfE (ha:Ag ρ n E a) {g:FuncId} {fl cl:Array Operand} (h:oFunc E g fl.toList cl.toList=some v):Reads P ρ a w [] (.makeFunc (.func g) fl cl) v:=by
  unfold oFunc at h
  split at h
  · rename_i f hf
    split at h
    · rename_i c hc
      cases h
      exact ⟨_,⟨(fl.map a.eval),(cl.map a.eval),rfl,by simpa using ha.oprs hf,by simpa using ha.oprs hc⟩,fun _ _ _ _ _ w' _=>by simp [execOp,Instr.makeFunc]⟩
    · cases h
  · cases h
noncomputable def oUn (E:qp) (op:UnOp) (x:Operand):Option AV:=match op,opr E x with
  | .not,some (.vl (.bool b))=>some (.vl (.bool (!b)))
  | .neg,some (.vl (.int q i))=>some (.vl (.int q (q.wrap (0-i))))
  | .xor,some (.vl (.int q i))=>some (.vl (bitsA .xor q (if q.signed then -1 else q.max) i))
  | _,_=>none
theorem rd_un (ha:Ag ρ n E a) {op:UnOp} {t:TypeId} {x:Operand} (h:oUn E op x=some v):Reads P ρ a w [] (.unOp op t x) v:=by
  unfold oUn at h
  split at h
  · rename_i b hx
    cases h
    have e:a.eval x=_:=ha.opr hx
    exact ⟨_,rfl,fun _ _ _ _ _ w' _=>by simp [execOp,e,Op.unary]⟩
  · rename_i q i hx
    cases h
    have e:a.eval x=_:=ha.opr hx
    exact ⟨_,rfl,fun _ _ _ _ _ w' _=>by simp [execOp,e,Op.unary,Op.intArith]⟩
  · rename_i q i hx
    cases h
    have e:a.eval x=_:=ha.opr hx
    exact ⟨_,rfl,fun _ _ _ _ _ w' _=>by simp [execOp,e,Op.unary,Op.intBits,bitsA,Go.Sl.bitsOf]⟩
  · cases h
noncomputable def oConv (P:Program) (E:qp) (t u:TypeId) (x:Operand):Option AV:=match opr E x with
  | some (.vl (.int _ i))=>match P.underlying t with
    | some _=>match P.underlying u with
      | some (.int q)=>some (.vl (.int q (q.wrap i)))
      | _=>none
    | none=>none
  | _=>none
theorem qfF (ha:Ag ρ n E a) {t u:TypeId} {x:Operand} (h:oConv P E t u x=some v):Reads P ρ a w [] (.convert t u x) v:=by
  unfold oConv at h
  split at h
  · rename_i q0 i hx
    split at h
    · rename_i d hd
      split at h
      · rename_i q hq
        cases h
        have e:a.eval x=_:=ha.opr hx
        exact ⟨_,rfl,fun _ _ _ _ _ w' _=>by simp [execOp,e,convert,run_underlying hd,run_underlying hq,Conv.intToInt]⟩
      · cases h
    · cases h
  · cases h
end
end Go.Sl.Ev
namespace Go.Sl.Ev
open Go.RowKit
section
variable {P:Program} {ρ:Rho} {n:Nat} {E:qp} {a:Act} {w w0:World} {s:St} {v:AV}
noncomputable def cellsAt (b i:Nat):Nat→List (Nat × Nat)
  | 0=>[]
  | k+1=>(b,i)::cellsAt b (i+1) k
theorem Y3 {b:Nat}:∀ {i k j:Nat},j<k→(b,i+j)∈cellsAt b i k
  | i,k+1,0,_=>by simp [cellsAt]
  | i,k+1,j+1,h=>by
    have:=Y3 (b:=b) (i:=i+1) (k:=k) (j:=j) (by omega)
    rw [show i+1+j=i+(j+1) by omega] at this
    exact List.mem_cons_of_mem _ this
noncomputable def loadN (P:Program) (t:TypeId):Option (Nat × Bool):=match flOf P t with
  | some true=>some (1,true)
  | some false=>match szOf P t with
    | some k=>some (k,false)
    | none=>none
  | none=>none
noncomputable def oLoad (P:Program) (E:qp) (s:St) (t:TypeId) (x:Operand):Option AV:=match opr E x with
  | some (.pt b i)=>match loadN P t with
    | some (k,fl)=>match s.read b i k with
      | some l=>bif fl then nth l 0 else some (.ag l)
      | none=>none
    | none=>none
  | _=>none
noncomputable def fLoad (P:Program) (E:qp) (t:TypeId) (x:Operand):List (Nat × Nat):=match opr E x with
  | some (.pt b i)=>match loadN P t with
    | some (k,_)=>cellsAt b i k
    | none=>[]
  | _=>[]
theorem qfD (ha:Ag ρ n E a) (hs:qD w0 ρ s w) {t:TypeId} {x:Operand} (h:oLoad P E s t x=some v):Reads P ρ a w (fLoad P E t x) (.load t x) v:=by
  unfold oLoad at h
  split at h
  · rename_i b i hx
    obtain ⟨r,c,h1,e⟩:=ha.opr hx
    split at h
    · rename_i k fl hk
      split at h
      · rename_i l hl
        have hL:fLoad P E t x=cellsAt b i k:=by simp only [fLoad,hx,hk]
        obtain ⟨l',h2,h3,h4⟩:=hs.read h1 hl
        have get:∀ {w':World},Same ρ (fLoad P E t x) w w'→∀ (j:Nat) u,l'[j]?=some u→w'.cell? ⟨r,i+j,none⟩=some u:=fun hw j u hu=>by
          have hj:j<k:=h3 ▸ (List.getElem?_eq_some_iff.1 hu).1
          rw [hw (b,i+j) (by rw [hL]; exact Y3 hj) r c h1]
          exact h4 j u hu
        unfold loadN at hk
        split at hk
        · rename_i hf
          cases hk
          simp only [cond_true] at h
          rw [Zf] at h
          obtain ⟨u,hu,hR⟩:=h2.at h
          exact ⟨u,hR,fun _ _ _ _ _ w' hw=>by
            have:=get hw 0 u hu
            simp only [Nat.add_zero] at this
            simp [execOp,e,Instr.loadAt,Instr.sureAddr,loadVar,JB hf,this,Result.andThen]⟩
        · rename_i hf
          split at hk
          · rename_i k' hsz
            cases hk
            simp only [cond_false,Option.some.injEq] at h
            subst h
            exact ⟨.agg l'.toArray,⟨_,rfl,by simpa using h2⟩,fun _ _ _ _ _ w' hw=>by
              have hcs:=run_loadCells_list (P:=P) (w:=w') ⟨r,i,none⟩ l' (fun j u hu=>by rw [qx]; exact get hw j u hu)
              rw [h3] at hcs
              simp [execOp,e,Instr.loadAt,Instr.sureAddr,loadVar,JB hf,zB hsz,hcs,Result.andThen]⟩
          · cases hk
        · cases hk
      · cases h
    · cases h
  · cases h
noncomputable def oIA (P:Program) (E:qp) (t:TypeId) (x y:Operand):Option AV:=match opr E x with
  | some xv=>match opr E y with
    | some yv=>match idx yv with
      | some j=>match P.underlying t with
        | some (.array k e)=>match szOf P e with
          | some es=>match xv with
            | .pt b o=>bif Nat.blt j k then some (.pt b (o+j*es)) else none
            | _=>none
          | none=>none
        | some (.slice e)=>match szOf P e with
          | some es=>match xv with
            | .sl b o k _=>bif Nat.blt j k then some (.pt b (o+j*es)) else none
            | .sz b _ o k=>bif Nat.blt j k then some (.pt b (o+j*es)) else none
            | _=>none
          | none=>none
        | _=>none
      | none=>none
    | none=>none
  | none=>none
theorem rd_ia (ha:Ag ρ n E a) {t:TypeId} {x y:Operand} (h:oIA P E t x y=some v):Reads P ρ a w [] (.indexAddr t x y) v:=by
  unfold oIA at h
  split at h
  · rename_i xv hx
    split at h
    · rename_i yv hy
      split at h
      · rename_i j hj
        obtain ⟨q,ey⟩:=Z9 hj (ha.opr hy)
        have hR:=ha.opr hx
        split at h
        · rename_i k e ht
          split at h
          · rename_i es hes
            split at h
            · rename_i b o
              cases hb:Nat.blt j k with
              | false=>rw [hb] at h; cases h
              | true =>
                rw [hb] at h; cases h
                have hlt:j<k:=by simpa [Nat.blt_eq] using hb
                obtain ⟨r,c,h1,ex⟩:=hR
                exact ⟨_,⟨r,c,h1,rfl⟩,fun _ _ _ _ _ w' _=>by
                  simp [execOp,Instr.indexAt,ex,ey,asIntOf,run_underlying ht,zB hes,hlt,qx,Instr.sureAddr,Result.andThen]⟩
            · cases h
          · cases h
        · rename_i e ht
          split at h
          · rename_i es hes
            split at h
            · rename_i b o k cap
              cases hb:Nat.blt j k with
              | false=>rw [hb] at h; cases h
              | true =>
                rw [hb] at h; cases h
                have hlt:j<k:=by simpa [Nat.blt_eq] using hb
                obtain ⟨r,c,h1,ex⟩:=hR
                exact ⟨_,⟨r,c,h1,rfl⟩,fun _ _ _ _ _ w' _=>by
                  simp [execOp,Instr.indexAt,ex,ey,asIntOf,run_underlying ht,zB hes,hlt,qx,Result.andThen]⟩
            · rename_i b lo o k
              cases hb:Nat.blt j k with
              | false=>rw [hb] at h; cases h
              | true =>
                rw [hb] at h; cases h
                have hlt:j<k:=by simpa [Nat.blt_eq] using hb
                obtain ⟨r,c,h1,ex,_⟩:=hR
                exact ⟨_,⟨r,c,h1,rfl⟩,fun _ _ _ _ _ w' _=>by
                  simp [execOp,Instr.indexAt,ex,ey,asIntOf,run_underlying ht,zB hes,hlt,qx,Result.andThen]⟩
            · cases h
          · cases h
        · cases h
      · cases h
    · cases h
  · cases h
noncomputable def oIx (P:Program) (E:qp) (t:TypeId) (x y:Operand):Option AV:=match opr E x with
  | some xv=>match opr E y with
    | some yv=>match idx yv with
      | some j=>match P.underlying t with
        | some (.array k e)=>match szOf P e with
          | some es=>match flOf P e with
            | some fl=>match xv with
              | .ag l=>bif Nat.blt j k then partA l (j*es) es fl else none
              | _=>none
            | none=>none
          | none=>none
        | some .string=>match xv with
          | .vl (.string b)=>match b[j]? with
            | some c=>some (.vl (.int .u8 c.toNat))
            | none=>none
          | _=>none
        | _=>none
      | none=>none
    | none=>none
  | none=>none
theorem rd_ix (ha:Ag ρ n E a) {t:TypeId} {x y:Operand} (h:oIx P E t x y=some v):Reads P ρ a w [] (.index t x y) v:=by
  unfold oIx at h
  split at h
  · rename_i xv hx
    split at h
    · rename_i yv hy
      split at h
      · rename_i j hj
        obtain ⟨q,ey⟩:=Z9 hj (ha.opr hy)
        have hR:=ha.opr hx
        split at h
        · rename_i k e ht
          split at h
          · rename_i es hes
            split at h
            · rename_i fl hfl
              split at h
              · rename_i l
                cases hb:Nat.blt j k with
                | false=>rw [hb] at h; cases h
                | true =>
                  rw [hb] at h
                  have hlt:j<k:=by simpa [Nat.blt_eq] using hb
                  obtain ⟨l',ex,hr⟩:=hR
                  obtain ⟨u,hu,hrun⟩:=Kv hes hfl hr h
                  exact ⟨u,hu,fun _ _ _ _ _ w' _=>by
                    simp [execOp,Instr.index,ex,ey,asIntOf,run_underlying ht,zB hes,hlt,hrun,Result.andThen]⟩
              · cases h
            · cases h
          · cases h
        · rename_i ht
          split at h
          · rename_i b
            split at h
            · rename_i c hc
              cases h
              have ex:a.eval x=.string b:=hR
              exact ⟨_,rfl,fun _ _ _ _ _ w' _=>by
                simp [execOp,Instr.index,ex,ey,asIntOf,run_underlying ht,hc,Result.andThen]⟩
            · cases h
          · cases h
        · cases h
      · cases h
    · cases h
  · cases h
end
end Go.Sl.Ev
namespace Go.Sl.Ev
open Go.RowKit
section
variable {P:Program} {ρ:Rho} {n:Nat} {E:qp} {a:Act} {w w0:World} {s:St} {v:AV}
noncomputable def cellsA:AV→Option (List AV)
  | .ag l=>some l
  | .tu _=>none
  | .vl x=>bif x.oneCell' then some [.vl x] else none
  | x=>some [x]
theorem z5 {x:AV} {y:Value} {l:List AV} (h:cellsA x=some l) (hr:AV.R ρ x y):AV.Rs ρ l y.cells.toList:=by
  cases x with
  | ag l'=>cases h; obtain ⟨m,rfl,h2⟩:=hr; exact h2
  | tu _=>cases h
  | vl x =>
    simp only [cellsA] at h
    cases ho:x.oneCell' with
    | false=>rw [ho] at h; cases h
    | true =>
      rw [ho] at h; cases h; cases hr
      have:y.cells=#[y]:=by cases y <;> first | rfl | simp [Value.oneCell'] at ho
      rw [this]; exact ⟨rfl,trivial⟩
  | pt b i=>cases h; have h0:=hr; obtain ⟨_,_,_,rfl⟩:=hr; exact ⟨h0,trivial⟩
  | sl b o k c=>cases h; have h0:=hr; obtain ⟨_,_,_,rfl⟩:=hr; exact ⟨h0,trivial⟩
  | sz b o k c=>cases h; have h0:=hr; obtain ⟨_,_,_,rfl,_⟩:=hr; exact ⟨h0,trivial⟩
  | em=>cases h; have h0:=hr; obtain ⟨_,_,rfl⟩:=hr; exact ⟨h0,trivial⟩
  | fn g f c=>cases h; have h0:=hr; obtain ⟨_,_,rfl,_⟩:=hr; exact ⟨h0,trivial⟩
  | yi l=>cases h; have h0:=hr; obtain ⟨_,_,_,rfl⟩:=hr; exact ⟨h0,trivial⟩
  | mh b=>cases h; have h0:=hr; obtain ⟨_,_,_,rfl⟩:=hr; exact ⟨h0,trivial⟩
noncomputable def prts (E:qp):List (Nat × Operand)→Option (List (Nat × AV))
  | []=>some []
  | (i,x)::l=>match opr E x with
    | some v=>match prts E l with
      | some vs=>some ((i,v)::vs)
      | none=>none
    | none=>none
noncomputable def PR (ρ:Rho):List (Nat × AV)→List (Nat × Value)→Prop
  | [],[]=>True
  | (i,x)::l,(j,y)::m=>i=j∧AV.R ρ x y∧PR ρ l m
  | _,_=>False
theorem Ag.prts (ha:Ag ρ n E a):∀ {l:List (Nat × Operand)} {vs:List (Nat × AV)},prts E l=some vs→PR ρ vs (l.map fun (i,x)=>(i,a.eval x))
  | [],_,hx=>by cases hx; trivial
  | (i,x)::l,vs,hx=>by
    simp only [Ev.prts] at hx
    split at hx
    · rename_i v hv
      split at hx
      · rename_i us hu
        cases hx
        exact ⟨rfl,ha.opr hv,ha.prts hu⟩
      · cases hx
    · cases hx
noncomputable def fillA (pl:Nat→Option (Nat × Nat)):List AV→List (Nat × AV)→Option (List AV)
  | l,[]=>some l
  | l,(i,v)::r=>match pl i with
    | some (off,s)=>match cellsA v with
      | some c=>bif Nat.beq (lenF c) s && Nat.ble (off+s) (lenF l) then fillA pl (putL l off c) r else none
      | none=>none
    | none=>none
theorem JI {pl:Nat→Option (Nat × Nat)}:∀ {ps:List (Nat × AV)} {qs:List (Nat × Value)} {l l':List AV} {cs:Array Value},fillA pl l ps=some l'→PR ρ ps qs→AV.Rs ρ l cs.toList →
    ∃ out,Instr.fill pl cs qs=some out∧AV.Rs ρ l' out.toList
  | [],[],l,l',cs,h,_,hl=>by cases h; exact ⟨cs,rfl,hl⟩
  | (i,x)::ps,(j,y)::qs,l,l',cs,h,hp,hl=>by
    obtain ⟨rfl,hx,hp⟩:=hp
    simp only [fillA] at h
    split at h
    · rename_i off sz hpl
      split at h
      · rename_i c hc
        rw [Q6,Q6] at h
        cases hb:(Nat.beq c.length sz && Nat.ble (off+sz) l.length) with
        | false=>rw [hb] at h; cases h
        | true =>
          rw [hb] at h
          simp only [cond_true] at h
          have hb':c.length=sz∧off+sz≤l.length:=by simpa using hb
          have hcs:=z5 hc hx
          have hl1:=hcs.len
          have hl2:=hl.len
          simp at hl1 hl2
          have hf:(y.cells.zipIdx.foldl (fun cs (x:Value × Nat)=>cs.setIfInBounds (off+x.2) x.1) cs).toList=zA cs.toList off y.cells.toList:=by
            rw [← Array.foldl_toList,Array.toList_zipIdx]
            have:=ZC y.cells.toList off 0 cs (by simp; omega)
            simpa using this
          have hR:AV.Rs ρ (putL l off c) (y.cells.zipIdx.foldl (fun cs (x:Value × Nat)=>cs.setIfInBounds (off+x.2) x.1) cs).toList:=by
            rw [hf]; exact hl.put hcs off (by omega)
          obtain ⟨out,ho,hoR⟩:=JI h hp hR
          refine ⟨out,?_,hoR⟩
          unfold Instr.fill
          simp only [hpl]
          rw [if_neg (by simp; omega)]
          exact ho
      · cases h
    · cases h
  | [],_::_,_,_,_,_,hp,_=>by simp [PR] at hp
  | _::_,[],_,_,_,_,hp,_=>by simp [PR] at hp
noncomputable def szAll (P:Program):List Field→Option (List (Nat × Nat))
  | []=>some []
  | f::l=>match szOf P f.type with
    | some s=>match szAll P l with
      | some r=>some ((f.offset,s)::r)
      | none=>none
    | none=>none
theorem Xt:∀ {l:List Field} {r:List (Nat × Nat)},szAll P l=some r→∀ w,(l.mapM fun f=>(do pure (f.offset,← sizeOf f.type):Sem (Nat × Nat))).run P w=.ok r w
  | [],_,h,w=>by cases h; simp
  | f::l,r,h,w=>by
    simp only [szAll] at h
    split at h
    · rename_i s hs
      split at h
      · rename_i r' hr
        cases h
        have:=Xt hr w
        simp at this
        simp [List.mapM_cons,zB hs,Result.andThen,this]
      · cases h
    · cases h
noncomputable def plOf (P:Program) (t:TypeId):Option (Nat→Option (Nat × Nat)):=match P.underlying t with
  | some (.struct fs)=>match szAll P fs.toList with
    | some r=>some (nth r)
    | none=>none
  | some (.array _ e)=>match szOf P e with
    | some s=>some fun i=>some (i*s,s)
    | none=>none
  | _=>none
noncomputable def oBuild (P:Program) (E:qp) (t:TypeId) (ps:List (Nat × Operand)):Option AV:=match prts E ps with
  | some vs=>match zrOf P t with
    | some z=>match plOf P t with
      | some pl=>match cellsA (lift z) with
        | some zl=>match fillA pl zl vs with
          | some l=>some (.ag l)
          | none=>none
        | none=>none
      | none=>none
    | none=>none
  | none=>none
theorem qdQ (ha:Ag ρ n E a) {t:TypeId} {ps:Array (Nat × Operand)} (h:oBuild P E t ps.toList=some v):Reads P ρ a w [] (.build t ps) v:=by
  unfold oBuild at h
  split at h
  · rename_i vs hvs
    split at h
    · rename_i z hz
      split at h
      · rename_i pl hpl
        split at h
        · rename_i zl hzl
          split at h
          · rename_i l hl
            cases h
            obtain ⟨out,ho,hR⟩:=JI hl (ha.prts hvs) (z5 hzl (JF (ρ:=ρ) z))
            refine ⟨.agg out,⟨_,rfl,hR⟩,fun _ _ _ _ _ w' _=>?_⟩
            have he:(ps.map fun (i,x)=>(i,a.eval x)).toList=ps.toList.map fun (i,x)=>(i,a.eval x):=by simp
            have hr:(Instr.build t (ps.map fun (i,x)=>(i,a.eval x))).run P w'=.ok (.agg out) w':=by
              unfold Instr.build
              unfold plOf at hpl
              split at hpl
              · rename_i fs hfs
                split at hpl
                · rename_i r hr
                  cases hpl
                  have hm:(fs.mapM fun f=>(do pure (f.offset,← sizeOf f.type):Sem (Nat × Nat))).run P w'=.ok r.toArray w':=by
                    rw [Array.mapM_eq_mapM_toList]
                    have:=Xt hr w'
                    simp at this ⊢
                    simp [this,Result.andThen]
                  have hn:(fun i=>r.toArray[i]?)=nth r:=by funext i; simp [Zf]
                  simp only [Sem.run_bind,YC hz,run_underlying hfs,hm,Result.andThen]
                  rw [hn,he,ho]
                  simp
                · cases hpl
              · rename_i k e hke
                split at hpl
                · rename_i s' hs'
                  cases hpl
                  simp only [Sem.run_bind,YC hz,run_underlying hke,zB hs',Result.andThen]
                  rw [he,ho]
                  simp
                · cases hpl
              · cases hpl
            have e2:(ps.map fun x=>(x.1,a.eval x.2))=ps.map fun (i,x)=>(i,a.eval x):=rfl
            simp only [execOp]
            simp [hr,Result.andThen]
          · cases h
        · cases h
      · cases h
    · cases h
  · cases h
end
end Go.Sl.Ev
namespace Go.Sl.Ev
open Go.RowKit
section
variable {P:Program} {ρ:Rho} {n:Nat} {E:qp} {a:Act} {w w0:World} {s:St} {v:AV}
noncomputable def EqR (P:Program) (t:TypeId) (x y:Value) (b:Bool):Prop:=∀ d w,(Op.equalIn (d+1) t x y).run P w=.ok b w
noncomputable def eq1 (P:Program) (t:TypeId) (x y:AV):Option Bool:=match P.underlying t with
  | some (.int _)=>match x,y with
    | .vl (.int k i),.vl (.int k' j)=>if k=k' then some (decide (i=j)) else none
    | _,_=>none
  | some .bool=>match x,y with
    | .vl (.bool a),.vl (.bool b)=>some (a == b)
    | _,_=>none
  | some .string=>match x,y with
    | .vl (.string a),.vl (.string b)=>some (a.toList == b.toList)
    | _,_=>none
  | some (.pointer _)=>match x,y with
    | .vl (.pointer none),.vl (.pointer none)=>some true
    | .vl (.pointer none),.pt _ _=>some false
    | .pt _ _,.vl (.pointer none)=>some false
    | _,_=>none
  | some (.slice _)=>match x,y with
    | .vl (.slice none _ _),.vl (.slice none _ _)=>some true
    | .vl (.slice none _ _),.sl _ _ _ _=>some false
    | .sl _ _ _ _,.vl (.slice none _ _)=>some false
    | .sz _ _ _ _,.vl (.slice none _ _)=>some false
    | .em,.vl (.slice none _ _)=>some false
    | _,_=>none
  | some (.func _ _ _)=>match x,y with
    | .vl .nilFunc,.vl .nilFunc=>some true
    | .fn _ _ _,.vl .nilFunc=>some false
    | _,_=>none
  | _=>none
theorem X0 {t:TypeId} {x y:AV} {x' y':Value} {b:Bool} (h:eq1 P t x y=some b) (hx:AV.R ρ x x') (hy:AV.R ρ y y'):EqR P t x' y' b:=by
  intro d w
  unfold eq1 at h
  split at h
  · rename_i k0 ht
    split at h
    · rename_i k i k' j
      by_cases e:k=k'
      · subst e
        rw [if_pos rfl] at h
        cases h; cases hx; cases hy
        simp [Op.equalIn,run_underlying ht w,Result.andThen]; rfl
      · rw [if_neg e] at h; cases h
    · cases h
  · rename_i ht
    split at h
    · cases h; cases hx; cases hy; exact run_equalIn_bool w d t _ _ ht
    · cases h
  · rename_i ht
    split at h
    · cases h; cases hx; cases hy; exact run_equalIn_string w d t _ _ ht
    · cases h
  · rename_i e ht
    have hu:=run_underlying ht w
    split at h
    · cases h; cases hx; cases hy; simp [Op.equalIn,hu,Result.andThen]
    · cases h; cases hx; obtain ⟨_,_,_,rfl⟩:=hy; simp [Op.equalIn,hu,Result.andThen]
    · cases h; cases hy; obtain ⟨_,_,_,rfl⟩:=hx; simp [Op.equalIn,hu,Result.andThen]
    · cases h
  · rename_i e ht
    have hu:=run_underlying ht w
    split at h
    · cases h; cases hx; cases hy; simp [Op.equalIn,hu,Result.andThen]
    · cases h; cases hx; obtain ⟨_,_,_,rfl⟩:=hy; simp [Op.equalIn,hu,Result.andThen]
    · cases h; cases hy; obtain ⟨_,_,_,rfl⟩:=hx; simp [Op.equalIn,hu,Result.andThen]
    · cases h; cases hy; obtain ⟨_,_,_,rfl,_⟩:=hx; simp [Op.equalIn,hu,Result.andThen]
    · cases h; cases hy; obtain ⟨_,_,rfl⟩:=hx; simp [Op.equalIn,hu,Result.andThen]
    · cases h
  · rename_i ht
    have hu:=run_underlying ht w
    split at h
    · cases h; cases hx; cases hy; simp [Op.equalIn,hu,Result.andThen]
    · cases h; cases hy; obtain ⟨_,_,rfl,_⟩:=hx; simp [Op.equalIn,hu,Result.andThen]
    · cases h
  · cases h
noncomputable def plainV:Value→Bool
  | .int _ _ | .bool _ | .string _ | .pointer _ | .slice _ _ _ | .func _ _ _ | .nilFunc=>true
  | _=>false
theorem qda {t:TypeId} {x y:AV} {x':Value} {b:Bool} (h:eq1 P t x y=some b) (hx:AV.R ρ x x'):plainV x'=true:=by
  unfold eq1 at h
  repeat' split at h
  all_goals first
    | (cases hx; rfl)
    | (obtain ⟨_,_,_,rfl⟩:=hx; rfl)
    | (obtain ⟨_,_,rfl⟩:=hx; rfl)
    | (obtain ⟨_,_,rfl,_⟩:=hx; rfl)
    | (obtain ⟨_,_,_,rfl,_⟩:=hx; rfl)
    | cases h
theorem Ja {op:BinOp} {t:TypeId} {ox oy:Operand} {x y:Value} (h:plainV x=true) (w:World):(eqGuard op t ox oy x y).run P w=.ok () w:=by
  unfold eqGuard
  cases op <;> simp <;> cases x <;> first | (simp [plainV] at h; done) | (cases y <;> simp)
noncomputable def eqFsA (P:Program) (xs ys:List AV):List Field→Option Bool
  | []=>some true
  | f::fs=>bif decide (f.name="_") then none else match flOf P f.type with
    | some true=>match nth xs f.offset with
      | some x=>match nth ys f.offset with
        | some y=>match eq1 P f.type x y with
          | some r=>match eqFsA P xs ys fs with
            | some r'=>some (r && r')
            | none=>none
          | none=>none
        | none=>none
      | none=>none
    | _=>none
theorem XZ {xs ys:List AV} {xs' ys':Array Value} (hx:AV.Rs ρ xs xs'.toList) (hy:AV.Rs ρ ys ys'.toList) (d:Nat) (w:World):∀ {fs:List Field} {b:Bool},eqFsA P xs ys fs=some b→(Op.eqFields (d+1) xs' ys' fs).run P w=.ok b w
  | [],b,h=>by cases h; rfl
  | f::fs,b,h=>by
    simp only [eqFsA] at h
    by_cases hn:f.name="_"
    · simp [hn] at h
    · simp only [hn,decide_false,cond_false] at h
      split at h
      · rename_i hf
        split at h
        · rename_i x hxx
          split at h
          · rename_i y hyy
            split at h
            · rename_i r hr
              split at h
              · rename_i r' hr'
                cases h
                rw [Zf] at hxx hyy
                obtain ⟨x',e1,R1⟩:=hx.at hxx
                obtain ⟨y',e2,R2⟩:=hy.at hyy
                have ih:=XZ hx hy d w hr'
                have hp:∀ (cs:Array Value) (v:Value),cs.toList[f.offset]?=some v→(part f.type cs f.offset).run P w=.ok v w:=fun cs v hv=>by
                  have:cs[f.offset]?=some v:=by simpa using hv
                  simp [part,JB hf,this,Result.andThen]
                simp only [Op.eqFields,if_pos hn,Sem.run_bind,hp xs' x' e1,hp ys' y' e2,X0 hr R1 R2 d w,Result.andThen_ok]
                cases r with
                | true=>simpa using ih
                | false=>simp
              · cases h
            · cases h
          · cases h
        · cases h
      · cases h
noncomputable def eqV (P:Program) (t:TypeId) (x y:AV):Option Bool:=match x,y with
  | .ag l,.ag m=>match P.underlying t with
    | some (.struct fs)=>bif P.stoodInHeld t || P.eqGuardType P.depth t then none else eqFsA P l m fs.toList
    | _=>none
  | _,_=>eq1 P t x y
theorem qaE {t:TypeId} {x y:AV} {x' y':Value} {b:Bool} (h:eqV P t x y=some b) (hx:AV.R ρ x x') (hy:AV.R ρ y y') (ox oy:Operand) (w:World) :
    (eqGuard .eql t ox oy x' y').run P w=.ok () w∧(eqGuard .neq t ox oy x' y').run P w=.ok () w∧(Op.equal t x' y').run P w=.ok b w:=by
  unfold eqV at h
  split at h
  · rename_i l m
    split at h
    · rename_i fs hfs
      cases hg:(P.stoodInHeld t || P.eqGuardType P.depth t) with
      | true=>rw [hg] at h; cases h
      | false =>
        rw [hg] at h
        simp only [cond_false] at h
        obtain ⟨g1,g2⟩:=Bool.or_eq_false_iff.1 hg
        obtain ⟨l',rfl,hl⟩:=hx
        obtain ⟨m',rfl,hm⟩:=hy
        refine ⟨run_eqGuard_agg w .eql t ox oy l' m' g2,run_eqGuard_agg w .neq t ox oy l' m' g2,?_⟩
        have hf:P.fieldsOf t=fs:=by simp [Program.fieldsOf,hfs]
        show (Op.equalIn 10000 t _ _).run P w=_
        rw [run_equalIn_struct w 9999 t l' m' (by rw [hf]; exact hfs) g1,hf]
        exact XZ hl hm 9998 w h
    · cases h
  · have hp:=qda h hx
    exact ⟨Ja hp w,Ja hp w,X0 h hx hy 9999 w⟩
end
end Go.Sl.Ev
namespace Go.Sl.Ev
open Go.RowKit
section
variable {P:Program} {ρ:Rho} {n:Nat} {E:qp} {a:Act} {w w0:World} {s:St} {v:AV}
noncomputable def isSh:BinOp→Bool
  | .shl | .shr=>true
  | _=>false
noncomputable def oBinV (P:Program) (op:BinOp) (t:TypeId) (x y:AV):Option AV:=match x,y with
  | .vl (.int q i),.vl (.int q' j)=>bif isSh op then (match shOp op q i j with | some r=>some (.vl r) | none=>none)
    else if q=q' then (match intOp op q i j with | some r=>some (.vl r) | none=>none) else none
  | x,y=>match op with
    | .eql=>match eqV P t x y with
      | some b=>some (.vl (.bool b))
      | none=>none
    | .neq=>match eqV P t x y with
      | some b=>some (.vl (.bool (!b)))
      | none=>none
    | _=>none
noncomputable def oBin (P:Program) (E:qp) (op:BinOp) (t:TypeId) (x y:Operand):Option AV:=match opr E x with
  | some xv=>match opr E y with
    | some yv=>oBinV P op t xv yv
    | none=>none
  | none=>none
theorem qgB {t:TypeId} {x y:AV} {x' y':Value} {b:Bool} (h:eq1 P t x y=some b) (hx:AV.R ρ x x') (hy:AV.R ρ y y') (hni:∀ q i q' j,x=.vl (.int q i)→y=.vl (.int q' j)→False) (w:World) :
    (Go.binOp .eql t x' y').run P w=.ok (.bool b) w∧(Go.binOp .neq t x' y').run P w=.ok (.bool (!b)) w:=by
  have he:(Op.equal t x' y').run P w=.ok b w:=X0 h hx hy 9999 w
  unfold eq1 at h
  split at h
  · split at h
    · exact (hni _ _ _ _ rfl rfl).elim
    · cases h
  · split at h
    · cases hx; cases hy; simp [Go.binOp,he,Result.andThen]
    · cases h
  · split at h
    · cases h; cases hx; cases hy; simp [Go.binOp,Op.stringOp,Result.andThen]
    · cases h
  · split at h
    · cases hx; cases hy; simp [Go.binOp,he,Result.andThen]
    · cases hx; obtain ⟨_,_,_,rfl⟩:=hy; simp [Go.binOp,he,Result.andThen]
    · cases hy; obtain ⟨_,_,_,rfl⟩:=hx; simp [Go.binOp,he,Result.andThen]
    · cases h
  · split at h
    · cases hx; cases hy; simp [Go.binOp,he,Result.andThen]
    · cases hx; obtain ⟨_,_,_,rfl⟩:=hy; simp [Go.binOp,he,Result.andThen]
    · cases hy; obtain ⟨_,_,_,rfl⟩:=hx; simp [Go.binOp,he,Result.andThen]
    · cases hy; obtain ⟨_,_,_,rfl,_⟩:=hx; simp [Go.binOp,he,Result.andThen]
    · cases hy; obtain ⟨_,_,rfl⟩:=hx; simp [Go.binOp,he,Result.andThen]
    · cases h
  · split at h
    · cases hx; cases hy; simp [Go.binOp,he,Result.andThen]
    · cases hy; obtain ⟨_,_,rfl,_⟩:=hx; simp [Go.binOp,he,Result.andThen]
    · cases h
  · cases h
theorem qgA {t:TypeId} {x y:AV} {x' y':Value} {b:Bool} (h:eqV P t x y=some b) (hx:AV.R ρ x x') (hy:AV.R ρ y y') (hni:∀ q i q' j,x=.vl (.int q i)→y=.vl (.int q' j)→False) (ox oy:Operand) (w:World) :
    (Go.binOp .eql t x' y').run P w=.ok (.bool b) w∧(Go.binOp .neq t x' y').run P w=.ok (.bool (!b)) w:=by
  obtain ⟨_,_,he⟩:=qaE h hx hy ox oy w
  unfold eqV at h
  split at h
  · obtain ⟨l',rfl,_⟩:=hx
    obtain ⟨m',rfl,_⟩:=hy
    simp [Go.binOp,he,Result.andThen]
  · exact qgB h hx hy hni w
theorem qhI (ha:Ag ρ n E a) {op:BinOp} {t t':TypeId} {x y:Operand} (h:oBin P E op t x y=some v):Reads P ρ a w [] (.binOp op t x y t') v:=by
  unfold oBin at h
  split at h
  · rename_i xv hx
    split at h
    · rename_i yv hy
      have hX:=ha.opr hx
      have hY:=ha.opr hy
      unfold oBinV at h
      split at h
      · rename_i q i q' j
        have ex:a.eval x=_:=hX
        have ey:a.eval y=_:=hY
        have he:∀ w,(eqGuard op t x y (.int q i) (.int q' j)).run P w=.ok () w:=fun w=>Ja rfl w
        cases hs:isSh op with
        | true =>
          rw [hs] at h
          simp only [cond_true] at h
          split at h
          · rename_i r hr
            cases h
            exact ⟨r,rfl,fun _ _ _ _ _ w' _=>by simp [execOp,ex,ey,he,qcJ hr t P w',Result.andThen]⟩
          · cases h
        | false =>
          rw [hs] at h
          simp only [cond_false] at h
          by_cases eq:q=q'
          · subst eq
            rw [if_pos rfl] at h
            split at h
            · rename_i r hr
              cases h
              exact ⟨r,rfl,fun _ _ _ _ _ w' _=>by simp [execOp,ex,ey,he,qbp hr t P w',Result.andThen]⟩
            · cases h
          · rw [if_neg eq] at h; cases h
      · rename_i hni
        have key:∀ {b:Bool},eqV P t xv yv=some b→∀ w',(eqGuard .eql t x y (a.eval x) (a.eval y)).run P w'=.ok () w'∧(eqGuard .neq t x y (a.eval x) (a.eval y)).run P w'=.ok () w'∧(Go.binOp .eql t (a.eval x) (a.eval y)).run P w'=.ok (.bool b) w'∧(Go.binOp .neq t (a.eval x) (a.eval y)).run P w'=.ok (.bool (!b)) w':=by
          intro b hb w'
          obtain ⟨k1,k2,_⟩:=qaE hb hX hY x y w'
          obtain ⟨k3,k4⟩:=qgA hb hX hY (fun q i q' j e1 e2=>hni q i q' j e1 e2) x y w'
          exact ⟨k1,k2,k3,k4⟩
        split at h
        · split at h
          · rename_i b hb
            cases h
            exact ⟨_,rfl,fun _ _ _ _ _ w' _=>by
              obtain ⟨k1,k2,k3,k4⟩:=key hb w'
              simp [execOp,k1,k3,Result.andThen]⟩
          · cases h
        · split at h
          · rename_i b hb
            cases h
            exact ⟨_,rfl,fun _ _ _ _ _ w' _=>by
              obtain ⟨k1,k2,k3,k4⟩:=key hb w'
              simp [execOp,k2,k4,Result.andThen]⟩
          · cases h
        · cases h
    · cases h
  · cases h
noncomputable def oLen (P:Program) (E:qp) (t:TypeId) (x:Operand):Option AV:=match opr E x with
  | some xv=>match P.underlying t with
    | some (.slice _)=>match xv with
      | .sl _ _ k _=>some (.vl (.int .i64 k))
      | .sz _ _ _ k=>some (.vl (.int .i64 k))
      | .em=>some (.vl (.int .i64 0))
      | .vl (.slice _ k _)=>some (.vl (.int .i64 k))
      | _=>none
    | some .string=>match xv with
      | .vl (.string b)=>some (.vl (.int .i64 b.size))
      | _=>none
    | some (.array k _)=>some (.vl (.int .i64 k))
    | some (.pointer e)=>match P.underlying e with
      | some (.array k _)=>some (.vl (.int .i64 k))
      | _=>none
    | _=>none
  | none=>none
theorem qhH (ha:Ag ρ n E a) {t:TypeId} {x:Operand} (h:oLen P E t x=some v):Reads P ρ a w [] (.call ⟨.builtin .len,#[x],#[t]⟩) v:=by
  unfold oLen at h
  split at h
  · rename_i xv hx
    have hX:=ha.opr hx
    split at h
    · rename_i e ht
      split at h
      · cases h
        obtain ⟨_,_,_,ex⟩:=hX
        exact ⟨_,rfl,fun _ _ _ _ _ w' _=>by simp [execOp,resolve,invoke,builtin,Builtin.len_,ex,run_underlying ht,goInt,Result.andThen]⟩
      · cases h
        obtain ⟨_,_,_,ex,_⟩:=hX
        exact ⟨_,rfl,fun _ _ _ _ _ w' _=>by simp [execOp,resolve,invoke,builtin,Builtin.len_,ex,run_underlying ht,goInt,Result.andThen]⟩
      · cases h
        obtain ⟨_,_,ex⟩:=hX
        exact ⟨_,rfl,fun _ _ _ _ _ w' _=>by simp [execOp,resolve,invoke,builtin,Builtin.len_,ex,run_underlying ht,goInt,Result.andThen]⟩
      · cases h
        have ex:a.eval x=_:=hX
        exact ⟨_,rfl,fun _ _ _ _ _ w' _=>by simp [execOp,resolve,invoke,builtin,Builtin.len_,ex,run_underlying ht,goInt,Result.andThen]⟩
      · cases h
    · rename_i ht
      split at h
      · cases h
        have ex:a.eval x=_:=hX
        exact ⟨_,rfl,fun _ _ _ _ _ w' _=>by simp [execOp,resolve,invoke,builtin,Builtin.len_,ex,run_underlying ht,goInt,Result.andThen]⟩
      · cases h
    · rename_i ht
      cases h
      exact ⟨_,rfl,fun _ _ _ _ _ w' _=>by simp [execOp,resolve,invoke,builtin,Builtin.len_,run_underlying ht,goInt,Result.andThen]⟩
    · rename_i e ht
      split at h
      · rename_i he
        cases h
        exact ⟨_,rfl,fun _ _ _ _ _ w' _=>by simp [execOp,resolve,invoke,builtin,Builtin.len_,run_underlying ht,run_underlying he,goInt,Result.andThen]⟩
      · cases h
    · cases h
  · cases h
noncomputable def oMM (E:qp) (mx:Bool) (x y:Operand):Option AV:=match opr E x,opr E y with
  | some (.vl (.int q i)),some (.vl (.int _ j))=>some (.vl (.int q (bif mx then (if j > i then j else i) else (if j<i then j else i))))
  | _,_=>none
theorem qhF (ha:Ag ρ n E a) {tys:Array TypeId} {x y:Operand} (h:oMM E false x y=some v):Reads P ρ a w [] (.call ⟨.builtin .min,#[x,y],tys⟩) v:=by
  unfold oMM at h
  split at h
  · rename_i q i q' j hx hy
    cases h
    have ex:a.eval x=_:=ha.opr hx
    have ey:a.eval y=_:=ha.opr hy
    exact ⟨_,rfl,fun _ _ _ _ _ w' _=>by simp [execOp,resolve,invoke,builtin,Builtin.min_,Builtin.min2,ex,ey,Result.andThen]⟩
  · cases h
theorem qhG (ha:Ag ρ n E a) {tys:Array TypeId} {x y:Operand} (h:oMM E true x y=some v):Reads P ρ a w [] (.call ⟨.builtin .max,#[x,y],tys⟩) v:=by
  unfold oMM at h
  split at h
  · rename_i q i q' j hx hy
    cases h
    have ex:a.eval x=_:=ha.opr hx
    have ey:a.eval y=_:=ha.opr hy
    exact ⟨_,rfl,fun _ _ _ _ _ w' _=>by simp [execOp,resolve,invoke,builtin,Builtin.max_,Builtin.max2,ex,ey,Result.andThen]⟩
  · cases h
end
end Go.Sl.Ev
namespace Go.Sl.Ev
open Go.RowKit
section
variable {P:Program} {ρ:Rho} {n:Nat} {E:qp} {a:Act} {w w0:World} {s:St} {v:AV}
noncomputable def bdOf (E:qp) (dflt:Nat):Option Operand→Option Nat
  | none=>some dflt
  | some x=>match opr E x with
    | some v=>idx v
    | none=>none
noncomputable def BdR (dflt l:Nat):Option Value→Prop
  | none=>l=dflt
  | some v=>∃ q,v=.int q (l:Int)
theorem Ag.bd (ha:Ag ρ n E a) {dflt l:Nat} {o:Option Operand} (h:bdOf E dflt o=some l):BdR dflt l (o.map a.eval):=by
  cases o with
  | none=>cases h; rfl
  | some x =>
    simp only [bdOf] at h
    split at h
    · rename_i v hv; exact Z9 h (ha.opr hv)
    · cases h
theorem QO {isSl:Bool} {len cap l hh:Nat} {lo hi:Option Value} (hlo:BdR 0 l lo) (hhi:BdR len hh hi) (h1:l≤hh) (h2:hh≤cap) (w:World):(Instr.sliceBounds isSl len cap lo hi none).run P w=.ok (l,hh,cap) w:=by
  cases lo with
  | none =>
    have hl:l=0:=hlo
    subst hl
    cases hi with
    | none=>have:hh=len:=hhi; subst this; simp [Instr.sliceBounds,Result.andThen]
    | some o=>obtain ⟨q,rfl⟩:=hhi; simp [Instr.sliceBounds,Instr.sliceBound,asIntOf,h2,Result.andThen]
  | some o' =>
    obtain ⟨q',rfl⟩:=hlo
    cases hi with
    | none=>have:hh=len:=hhi; subst this; simp [Instr.sliceBounds,Instr.sliceBound,asIntOf,h1,Result.andThen]
    | some o=>obtain ⟨q,rfl⟩:=hhi; simp [Instr.sliceBounds,Instr.sliceBound,asIntOf,h1,h2,Result.andThen]
theorem KV {α:Type} {c l:Nat} {x y:α}:(bif Nat.beq c l then x else y)=if c=l then x else y:=by
  by_cases e:c=l
  · subst e; simp
  · rw [if_neg e,zz e]; rfl
theorem two {p q:Bool} {α:Type} {x:Option α} {z:α} (h:(bif p && q then x else none)=some z):p=true∧q=true∧x=some z:=by
  cases p <;> cases q <;> simp_all
noncomputable def oSlice (P:Program) (E:qp) (t:TypeId) (x:Operand) (lo hi:Option Operand):Option AV:=match opr E x with
  | some xv=>match P.underlying t with
    | some (.slice e)=>match szOf P e with
      | some es=>match xv with
        | .sl b o k c=>match bdOf E 0 lo with
          | some l=>match bdOf E k hi with
            | some h=>bif Nat.ble l h && Nat.ble h c then some (.sl b (bif Nat.beq c l then o else o+l*es) (h-l) (c-l)) else none
            | none=>none
          | none=>none
        | .sz b lo' o k=>match bdOf E 0 lo with
          | some l=>match bdOf E k hi with
            | some h=>bif Nat.ble l h && Nat.ble h k then (bif Nat.blt l k || Nat.beq l 0 then some (.sz b (lo'+l) (o+l*es) (h-l)) else some .em) else none
            | none=>none
          | none=>none
        | .vl (.slice none 0 0)=>match bdOf E 0 lo with
          | some 0=>match bdOf E 0 hi with
            | some 0=>some (.vl (.slice none 0 0))
            | _=>none
          | _=>none
        | _=>none
      | none=>none
    | some (.array k e)=>match szOf P e with
      | some es=>match xv with
        | .pt b o=>match bdOf E 0 lo with
          | some l=>match bdOf E k hi with
            | some h=>bif Nat.ble l h && Nat.ble h k then some (.sl b (bif Nat.beq k l then o else o+l*es) (h-l) (k-l)) else none
            | none=>none
          | none=>none
        | _=>none
      | none=>none
    | some .string=>match xv with
      | .vl (.string b)=>match bdOf E 0 lo with
        | some l=>match bdOf E b.size hi with
          | some h=>bif Nat.ble l h && Nat.ble h b.size then some (.vl (.string (b.extract l h))) else none
          | none=>none
        | none=>none
      | _=>none
    | _=>none
  | none=>none
theorem qdN (ha:Ag ρ n E a) {t:TypeId} {x:Operand} {lo hi:Option Operand} (h:oSlice P E t x lo hi=some v):Reads P ρ a w [] (.slice t x lo hi none) v:=by
  unfold oSlice at h
  split at h
  · rename_i xv hx
    have hX:=ha.opr hx
    split at h
    · rename_i e ht
      split at h
      · rename_i es hes
        split at h
        · rename_i b o k c
          split at h
          · rename_i l hl
            split at h
            · rename_i hh hhi
              obtain ⟨p1,p2,h⟩:=two h
              cases h
              obtain ⟨r,c',h1,ex⟩:=hX
              have b1:=ha.bd hl
              have b2:=ha.bd hhi
              refine ⟨_,⟨r,c',h1,rfl⟩,fun _ _ _ _ _ w' _=>?_⟩
              have hb:=QO (P:=P) (isSl:=true) b1 b2 (by simpa using p1) (by simpa using p2) w'
              rw [KV]
              simp [execOp,ex,Instr.sliceAt,Instr.slice,run_underlying ht,hb,zB hes,Result.andThen]
              split <;> simp [qx]
            · cases h
          · cases h
        · rename_i b lo' o k
          split at h
          · rename_i l hl
            split at h
            · rename_i hh hhi
              obtain ⟨p1,p2,h⟩:=two h
              obtain ⟨r,c',h1,ex,hc⟩:=hX
              have b1:=ha.bd hl
              have b2:=ha.bd hhi
              have p1':l≤hh:=by simpa using p1
              have p2':hh≤k:=by simpa using p2
              have run:∀ w',(Instr.sliceBounds true k (c'-lo') (lo.map a.eval) (hi.map a.eval) none).run P w'=.ok (l,hh,c'-lo') w':=QO b1 b2 p1' (by omega)
              cases hz:(Nat.blt l k || Nat.beq l 0) with
              | true =>
                rw [hz] at h; cases h
                refine ⟨.slice (some ⟨r,o+l*es,none⟩) (hh-l) (c'-(lo'+l)),⟨r,c',h1,rfl,by omega⟩,fun _ _ _ _ _ w' _=>?_⟩
                have hz':l<k∨l=0:=by simpa using hz
                have e2:c'-lo'-l=c'-(lo'+l):=by omega
                simp [execOp,ex,Instr.sliceAt,Instr.slice,run_underlying ht,run w',zB hes,Result.andThen,e2]
                rcases hz' with hz' | rfl
                · rw [if_neg (by omega)]; simp [qx]
                · split <;> simp [qx]
              | false =>
                rw [hz] at h; cases h
                have hz':¬ l<k∧¬ l=0:=by
                  have:=Bool.or_eq_false_iff.1 hz
                  refine ⟨fun e=>?_,fun e=>?_⟩
                  · have:=this.1; rw [(Nat.blt_eq (x:=l) (y:=k)).mpr e] at this; cases this
                  · have:=this.2; subst e; cases this
                refine ⟨.slice (some (if c'-lo'=l then ⟨r,o,none⟩ else ⟨r,o+l*es,none⟩)) 0 (c'-lo'-l),⟨_,_,rfl⟩,fun _ _ _ _ _ w' _=>?_⟩
                have e0:hh-l=0:=by omega
                simp [execOp,ex,Instr.sliceAt,Instr.slice,run_underlying ht,run w',zB hes,Result.andThen,e0]
                split <;> simp [qx]
            · cases h
          · cases h
        · split at h
          · rename_i hl
            split at h
            · rename_i hhi
              cases h
              have ex:a.eval x=_:=hX
              have b1:=ha.bd hl
              have b2:=ha.bd hhi
              refine ⟨_,rfl,fun _ _ _ _ _ w' _=>?_⟩
              have hb:=QO (P:=P) (isSl:=true) (cap:=0) b1 b2 (Nat.le_refl _) (Nat.le_refl _) w'
              simp [execOp,ex,Instr.sliceAt,Instr.slice,run_underlying ht,hb,zB hes,Result.andThen]
            · cases h
          · cases h
        · cases h
      · cases h
    · rename_i k e ht
      split at h
      · rename_i es hes
        split at h
        · rename_i b o
          split at h
          · rename_i l hl
            split at h
            · rename_i hh hhi
              obtain ⟨p1,p2,h⟩:=two h
              cases h
              obtain ⟨r,c',h1,ex⟩:=hX
              have b1:=ha.bd hl
              have b2:=ha.bd hhi
              refine ⟨_,⟨r,c',h1,rfl⟩,fun _ _ _ _ _ w' _=>?_⟩
              have hb:=QO (P:=P) (isSl:=false) b1 b2 (by simpa using p1) (by simpa using p2) w'
              rw [KV]
              simp [execOp,ex,Instr.sliceAt,Instr.sureAddr,run_underlying ht,hb,zB hes,Result.andThen]
              split <;> simp [qx]
            · cases h
          · cases h
        · cases h
      · cases h
    · rename_i ht
      split at h
      · rename_i b
        split at h
        · rename_i l hl
          split at h
          · rename_i hh hhi
            obtain ⟨p1,p2,h⟩:=two h
            cases h
            have ex:a.eval x=_:=hX
            have b1:=ha.bd hl
            have b2:=ha.bd hhi
            refine ⟨_,rfl,fun _ _ _ _ _ w' _=>?_⟩
            have hb:=QO (P:=P) (isSl:=false) b1 b2 (by simpa using p1) (by simpa using p2) w'
            simp [execOp,ex,Instr.sliceAt,Instr.slice,run_underlying ht,hb,Result.andThen]
          · cases h
        · cases h
      · cases h
    · cases h
  · cases h
end
end Go.Sl.Ev
namespace Go.Sl.Ev
open Go.RowKit
noncomputable def Turns (P:Program) (w0:World) (ρ:Rho) (a:Act) (w:World) (op:Op) (v:AV) (s':St):Prop :=
  ∃ ρ' u w',ρ <+: ρ'∧AV.R ρ' v u∧qD w0 ρ' s' w'∧∀ d ty pos aft g,(execOp a.eval ⟨d,op,ty,pos,aft,g⟩).run P w=.ok (.value u) w'∨((execOp a.eval ⟨d,op,ty,pos,aft,g⟩).run P w=.ok .skip w'∧u=undef)
section
variable {P:Program} {ρ:Rho} {n:Nat} {E:qp} {a:Act} {w w0:World} {s s':St} {v:AV}
theorem QA (w:World) (o:Obj):Below w.heap.size w (w.alloc o):=(Below.refl _ _).alloc (Nat.le_refl _) o
theorem qD.row {b:Nat} {ty:TypeId} {l:List AV} {cs:Array Value} (h:qD w0 ρ s w) (hn:s.new (.c ty l)=some (b,s')) (hR:AV.Rs ρ l cs.toList) :
    ρ <+: ρ++[(w.heap.size,0)]∧(ρ++[(w.heap.size,0)])[b]?=some (w.heap.size,0)∧qD w0 (ρ++[(w.heap.size,0)]) s' (w.alloc (.cells cs ty)) :=
  h.add hn (QA w _) (Nat.le_refl _) (by rw [World.size_alloc]; omega) (by
    rw [World.alloc_heap_new]
    exact ⟨cs,rfl,hR.mono ⟨_,rfl⟩⟩)
noncomputable def oBox (E:qp) (s:St) (t:TypeId) (x:Operand):Option (AV × St):=match opr E x with
  | some v=>match cellsA v with
    | some l=>match s.new (.c t l) with
      | some (b,s)=>some (.pt b 0,s)
      | none=>none
    | none=>none
  | none=>none
theorem qhy (ha:Ag ρ n E a) (hs:qD w0 ρ s w) {t:TypeId} {x:Operand} (h:oBox E s t x=some (v,s')):Turns P w0 ρ a w (.box t x) v s':=by
  unfold oBox at h
  split at h
  · rename_i xv hx
    split at h
    · rename_i l hl
      split at h
      · rename_i b s2 hn
        cases h
        obtain ⟨h1,h2,h3⟩:=hs.row hn (z5 hl (ha.opr hx))
        exact ⟨_,_,_,h1,⟨_,_,h2,rfl⟩,h3,fun _ _ _ _ _=>.inl (by simp [execOp,Instr.box,newVar,newRow,Result.andThen])⟩
      · cases h
    · cases h
  · cases h
noncomputable def oAlloc (P:Program) (s:St) (t:TypeId):Option (AV × St):=match zrOf P t with
  | some z=>match cellsA (lift z) with
    | some l=>match s.new (.c t l) with
      | some (b,s)=>some (.pt b 0,s)
      | none=>none
    | none=>none
  | none=>none
theorem qdC (hs:qD w0 ρ s w) {t:TypeId} (h:oAlloc P s t=some (v,s')):Turns P w0 ρ a w (.alloc t) v s':=by
  unfold oAlloc at h
  split at h
  · rename_i z hz
    split at h
    · rename_i l hl
      split at h
      · rename_i b s2 hn
        cases h
        obtain ⟨h1,h2,h3⟩:=hs.row hn (z5 hl (JF z))
        exact ⟨_,_,_,h1,⟨_,_,h2,rfl⟩,h3,fun _ _ _ _ _=>.inl (by simp [execOp,Instr.alloc,YC hz,newVar,newRow,Result.andThen])⟩
      · cases h
    · cases h
  · cases h
noncomputable def oStore (P:Program) (E:qp) (s:St) (t:TypeId) (x y:Operand):Option St:=match opr E x with
  | some (.pt b i)=>match opr E y with
    | some v=>match cellsA v with
      | some l=>match szOf P t with
        | some k=>bif Nat.beq l.length k then s.write b i l else none
        | none=>none
      | none=>none
    | none=>none
  | _=>none
theorem qdB (ha:Ag ρ n E a) (hs:qD w0 ρ s w) {t:TypeId} {x y:Operand} (h:oStore P E s t x y=some s'):Turns P w0 ρ a w (.store t x y) (.vl undef) s':=by
  unfold oStore at h
  split at h
  · rename_i b i hx
    split at h
    · rename_i yv hy
      split at h
      · rename_i l hl
        split at h
        · rename_i k hk
          cases hb:Nat.beq l.length k with
          | false=>rw [hb] at h; cases h
          | true =>
            rw [hb] at h
            simp only [cond_true] at h
            obtain ⟨r,c,h1,ex⟩:=ha.opr hx
            have hR:=z5 hl (ha.opr hy)
            obtain ⟨w',hw,hs'⟩:=hs.write (P:=P) h1 h hR
            have hlen:(a.eval y).cells.size=k:=by
              have:=hR.len
              have hbk:l.length=k:=by simpa using hb
              simp at this; omega
            exact ⟨ρ,undef,w',⟨[],by simp⟩,rfl,hs',fun _ _ _ _ _=>.inr ⟨by
              simp [execOp,ex,Instr.storeAt,Instr.sureAddr,storeVar,zB hk,hlen,hw,Result.andThen],rfl⟩⟩
        · cases h
      · cases h
    · cases h
  · cases h
end
end Go.Sl.Ev
namespace Go.Sl.Ev
open Go.RowKit
section
variable {P:Program} {ρ:Rho} {n:Nat} {E:qp} {a:Act} {w w0:World} {s s':St} {v:AV}
theorem AV.Rs.map {ι:Type} {f:ι→AV} {g:ι→Value}:∀ {L:List ι},(∀ i∈L,AV.R ρ (f i) (g i))→AV.Rs ρ (L.map f) (L.map g)
  | [],_=>trivial
  | i::L,h=>⟨h i List.mem_cons_self,AV.Rs.map fun j hj=>h j (List.mem_cons_of_mem _ hj)⟩
noncomputable def zerosA (z:List AV) (m:Nat):List AV:=(List.range m).map fun i=>(nth z (i%z.length)).getD .em
theorem YT {z:List AV} {zc:Array Value} (h:AV.Rs ρ z zc.toList) (h0:0<z.length) (m:Nat):AV.Rs ρ (zerosA z m) ((Array.range m).map (zc[·%zc.size]!)).toList:=by
  have hl:=h.len
  simp at hl
  simp only [zerosA,Array.toList_map,Array.toList_range]
  refine AV.Rs.map fun i _=>?_
  have hlt:i%z.length<z.length:=Nat.mod_lt _ h0
  obtain ⟨y,e,hR⟩:=h.at (List.getElem?_eq_getElem hlt)
  rw [Zf,List.getElem?_eq_getElem hlt]
  have hlt':i%zc.size<zc.size:=by rw [← hl]; exact hlt
  rw [getElem!_pos zc _ hlt']
  have:zc[i%zc.size]=y:=by
    have e2:zc[i%z.length]?=some y:=by simpa using e
    rw [hl,Array.getElem?_eq_getElem hlt'] at e2
    exact Option.some.inj e2
  rw [this]; exact hR
noncomputable def oBS (P:Program) (E:qp) (s:St) (t:TypeId) (len:Nat) (ps:List (Nat × Operand)):Option (AV × St):=match prts E ps with
  | some vs=>match P.underlying t with
    | some (.slice e)=>match szOf P e with
      | some es=>match zrOf P e with
        | some z=>match cellsA (lift z) with
          | some zl=>bif Nat.beq zl.length es && Nat.blt 0 es then (bif Nat.ble (len*es) 16777216 then (match fillA (fun i=>some (i*es,es)) (zerosA zl (len*es)) vs with
            | some l=>match s.new (.c e l) with
              | some (b,s)=>some (.sl b 0 len len,s)
              | none=>none
            | none=>none) else none) else none
          | none=>none
        | none=>none
      | none=>none
    | _=>none
  | none=>none
theorem tu_bs (ha:Ag ρ n E a) (hs:qD w0 ρ s w) {t:TypeId} {len:Nat} {ps:Array (Nat × Operand)} (h:oBS P E s t len ps.toList=some (v,s')):Turns P w0 ρ a w (.buildSlice t len ps) v s':=by
  unfold oBS at h
  split at h
  · rename_i vs hvs
    split at h
    · rename_i e ht
      split at h
      · rename_i es hes
        split at h
        · rename_i z hz
          split at h
          · rename_i zl hzl
            obtain ⟨q1,q2,h⟩:=two h
            cases q3:Nat.ble (len*es) 16777216 with
            | false=>rw [q3] at h; cases h
            | true =>
              rw [q3] at h
              simp only [cond_true] at h
              have q1':zl.length=es:=by simpa using q1
              have q2':0<es:=by simpa [Nat.blt_eq] using q2
              have q3':len*es≤16777216:=by simpa using q3
              split at h
              · rename_i l hl
                split at h
                · rename_i b s2 hn
                  cases h
                  have hzc:=z5 hzl (JF (ρ:=ρ) z)
                  have hzl':=hzc.len
                  simp at hzl'
                  obtain ⟨out,ho,hR⟩:=JI hl (ha.prts hvs) (YT hzc (by omega) (len*es))
                  obtain ⟨h1,h2,h3⟩:=hs.row hn hR
                  refine ⟨_,.slice (some ⟨w.heap.size,0,none⟩) len len,_,h1,⟨_,_,h2,rfl⟩,h3,fun _ _ _ _ _=>.inl ?_⟩
                  have he:(ps.map fun (i,x)=>(i,a.eval x)).toList=ps.toList.map fun (i,x)=>(i,a.eval x):=by simp
                  have hr:(Instr.buildSlice t len (ps.map fun (i,x)=>(i,a.eval x))).run P w=.ok (.slice (some ⟨w.heap.size,0,none⟩) len len) (w.alloc (.cells out e)):=by
                    unfold Instr.buildSlice
                    simp only [Sem.run_bind,run_underlying ht,zB hes,Result.andThen]
                    rw [if_neg (by omega),he]
                    by_cases h0:len*es=0
                    · have hl0:len=0:=by
                        rcases Nat.mul_eq_zero.1 h0 with h | h
                        · exact h
                        · omega
                      subst hl0
                      have e0:∀ f:Nat→Value,Array.map f (Array.range (0*es))=#[]:=fun f=>by simp
                      rw [e0] at ho
                      simp only [h0,if_true,Sem.run_pure,Result.andThen]
                      have e1:∀ f:Nat→Value,Array.map f (Array.range 0)=#[]:=fun f=>by simp
                      simp only [e1,ho]
                      simp [newRow,Result.andThen]
                    · simp [h0,YC hz,Result.andThen,ho,newRow]
                  simp only [execOp]
                  simp [hr,Result.andThen]
                · cases h
              · cases h
          · cases h
        · cases h
      · cases h
    · cases h
  · cases h
end
end Go.Sl.Ev
namespace Go.Sl.Ev
open Go.RowKit
section
variable {P:Program} {ρ:Rho} {n:Nat} {E:qp} {a:Act} {w w' w0:World} {s s':St} {v:AV}
theorem qD.move {b b':Nat} {o:Ob} {r c c':Nat} (h:qD w0 ρ s w) (hr:ρ[b]?=some (r,c)) (hd:s.ob b≠.dead) (hn:(s.put b .dead).new o=some (b',s')) (hb:Below w0.heap.size w w') (ho:∀ k,k≠r→w'.heap[k]?=w.heap[k]?) (hR:ObR (ρ++[(r,c')]) c' o w'.heap[r]?) :
    ρ <+: ρ++[(r,c')]∧(ρ++[(r,c')])[b']?=some (r,c')∧qD w0 (ρ++[(r,c')]) s' w':=by
  have hb':=h.lt' hr
  obtain ⟨rfl,e1,e2,e3⟩:=St.ob_new hn
  have hp:ρ <+: ρ++[(r,c')]:=⟨_,rfl⟩
  have hl:=h.len
  have hl':(s.put b .dead).nb=s.nb:=rfl
  rw [hl'] at e1 e2 e3
  have ob:∀ i,i<s.nb→s'.ob i=if b=i then .dead else s.ob i:=fun i hi=>by
    have hi':i<4096:=Nat.lt_of_lt_of_le hi h.nb
    rw [e3 i hi',if_neg (by omega),St.ob_put hb' hi']
  obtain ⟨k1,k2,_⟩:=h.obs b r c hr
  have old:∀ {k:Nat} {x:Nat × Nat},(ρ++[(r,c')])[k]?=some x→k < ρ.length→ρ[k]?=some x:=fun hk hlt=>by rwa [List.getElem?_append_left hlt] at hk
  have new:∀ {k r1 c1:Nat},(ρ++[(r,c')])[k]?=some (r1,c1)→¬ k < ρ.length→k=ρ.length∧r1=r∧c1=c':=by
    intro k r1 c1 hk hge
    have hlt:=(List.getElem?_eq_some_iff.1 hk).1
    simp at hlt
    obtain rfl:k=ρ.length:=by omega
    simp at hk
    exact ⟨rfl,hk.1.symm,hk.2.symm⟩
  have other:∀ {i r' c'':Nat},ρ[i]?=some (r',c'')→s'.ob i≠.dead→r'≠r:=fun {i r' c''} hi hdi e=>by
    subst e
    rw [ob i (h.lt hi)] at hdi
    by_cases e:b=i
    · rw [if_pos e] at hdi; exact hdi rfl
    · rw [if_neg e] at hdi; exact e (h.inj b i _ c c'' hr hi hd hdi)
  refine ⟨hp,by rw [hl',← hl]; simp,h.below.trans hb,by simp [hl,e1],by omega,fun i r' c'' hi=>?_,fun i j r' c1 c2 hi hj di dj=>?_⟩
  · by_cases hlt:i < ρ.length
    · have hi2:=old hi hlt
      obtain ⟨h1,h2,h3⟩:=h.obs i r' c'' hi2
      refine ⟨h1,Nat.lt_of_lt_of_le h2 hb.size,?_⟩
      by_cases hdi:s'.ob i=.dead
      · rw [hdi]; trivial
      · have hne:=other hi2 hdi
        rw [ob i (h.lt hi2)] at hdi ⊢
        by_cases e:b=i
        · rw [if_pos e] at hdi; exact absurd rfl hdi
        · rw [if_neg e,ho r' hne]; exact h3.mono hp
    · obtain ⟨rfl,rfl,rfl⟩:=new hi hlt
      refine ⟨k1,Nat.lt_of_lt_of_le k2 hb.size,?_⟩
      rw [e3 _ (by omega),if_pos hl.symm]; exact hR
  · by_cases hi1:i < ρ.length <;> by_cases hj1:j < ρ.length
    · have hi2:=old hi hi1; have hj2:=old hj hj1
      rw [ob i (h.lt hi2)] at di
      rw [ob j (h.lt hj2)] at dj
      by_cases ei:b=i
      · rw [if_pos ei] at di; exact absurd rfl di
      · by_cases ej:b=j
        · rw [if_pos ej] at dj; exact absurd rfl dj
        · rw [if_neg ei] at di; rw [if_neg ej] at dj
          exact h.inj i j r' c1 c2 hi2 hj2 di dj
    · exact absurd (new hj hj1).2.1 (other (old hi hi1) di)
    · exact absurd (new hi hi1).2.1 (other (old hj hj1) dj)
    · rw [(new hi hi1).1,(new hj hj1).1]
end
end Go.Sl.Ev
namespace Go.Sl.Ev
open Go.RowKit
section
variable {P:Program} {ρ:Rho} {n:Nat} {E:qp} {a:Act} {w w' w0:World} {s s':St} {v:AV}
noncomputable def newsA (s:St) (es:Nat):AV→Option (List AV × Nat)
  | .sl b o k _=>match s.read b o (k*es) with
    | some l=>some (l,k)
    | none=>none
  | .sz b _ o k=>match s.read b o (k*es) with
    | some l=>some (l,k)
    | none=>none
  | .vl (.slice none 0 0)=>some ([],0)
  | .em=>some ([],0)
  | _=>none
theorem XD (hs:qD w0 ρ s w) {es m:Nat} {y:AV} {yv:Value} {l:List AV} (h:newsA s es y=some (l,m)) (hy:AV.R ρ y yv) :
    ∃ ad c l',yv=.slice ad m c∧AV.Rs ρ l l'∧l'.length=m*es∧∀ (j:Nat) x,l'[j]?=some x→∃ b o,ad=some ⟨b,o,none⟩∧w.cell? ⟨b,o+j,none⟩=some x:=by
  unfold newsA at h
  split at h
  · rename_i b o k c
    split at h
    · rename_i l0 hl
      cases h
      obtain ⟨r,c',h1,rfl⟩:=hy
      obtain ⟨l',h2,h3,h4⟩:=hs.read h1 hl
      exact ⟨_,_,l',rfl,h2,h3,fun j x hx=>⟨r,o,rfl,h4 j x hx⟩⟩
    · cases h
  · rename_i b lo o k
    split at h
    · rename_i l0 hl
      cases h
      obtain ⟨r,c',h1,rfl,_⟩:=hy
      obtain ⟨l',h2,h3,h4⟩:=hs.read h1 hl
      exact ⟨_,_,l',rfl,h2,h3,fun j x hx=>⟨r,o,rfl,h4 j x hx⟩⟩
    · cases h
  · cases h; cases hy
    exact ⟨none,0,[],rfl,trivial,by simp,fun j x hx=>by simp at hx⟩
  · cases h
    obtain ⟨ad,k,rfl⟩:=hy
    exact ⟨some ad,k,[],rfl,trivial,by simp,fun j x hx=>by simp at hx⟩
  · cases h
theorem qD.grown (hs:qD w0 ρ s w) {b e es need cap:Nat} {l:List AV} {cs:List Value} {z:Array Value} (hn:s.new (.w e es l)=some (b,s')) (hR:AV.Rs ρ l cs) (hl:cs.length=need*es) (hge:need≤cap) (hz:z.size=es) :
    ρ <+: ρ++[(w.heap.size,cap)]∧(ρ++[(w.heap.size,cap)])[b]?=some (w.heap.size,cap)∧qD w0 (ρ++[(w.heap.size,cap)]) s' (w.drew.alloc (.cells (cs.toArray++Builtin.zeroCells z (cap-need)) e)):=by
  have hsz:w.drew.heap.size=w.heap.size:=rfl
  have hlen:=hR.len
  refine hs.drew.add hn (QA _ _) (Nat.le_refl _) (by rw [World.size_alloc,hsz]; omega) ?_
  rw [← hsz,World.alloc_heap_new]
  refine ⟨_,rfl,?_,?_,?_⟩
  · simp only [Array.size_append,List.size_toArray,size_zeroCells,hz,hl,← Nat.add_mul]
    congr 1; omega
  · simp only [Array.size_append,List.size_toArray]; omega
  · rw [hlen]
    simp only [Array.toList_append]
    rw [List.take_left]
    exact hR.mono ⟨_,rfl⟩
end
end Go.Sl.Ev
namespace Go.Sl.Ev
open Go.RowKit
section
variable {P:Program} {ρ:Rho} {n:Nat} {E:qp} {a:Act} {w w' w0:World} {s s':St} {v:AV}
noncomputable def okN (k by_:Nat):Bool:=Nat.ble k 1099511627776 && Nat.ble (k*by_) 140737488355328
noncomputable def oApp2 (s:St) (e:TypeId) (es by_:Nat) (xv:AV) (nw:List AV) (m:Nat):Option (AV × St):=match xv with
  | .vl (.slice none 0 0)=>bif okN m by_ && true then (match s.new (.w e es nw) with
    | some (b,s)=>some (.sz b 0 0 m,s)
    | none=>none) else none
  | .sz b 0 0 k=>match s.ob b with
    | .w ty es' l=>bif decide (ty=e) && (Nat.beq es' es && (Nat.beq l.length (k*es) && okN (k+m) by_)) then (match (s.put b .dead).new (.w e es (l++nw)) with
      | some (b',s)=>some (.sz b' 0 0 (k+m),s)
      | none=>none) else none
    | _=>none
  | _=>none
theorem qdj (hs:qD w0 ρ s w) {t e:TypeId} {i:TypeInfo} {z:Value} {xv:AV} {xu:Value} {nw:List AV} {nw':List Value} {m:Nat} {a0:Addr} {c:Nat}
    (ht:P.underlying t=some (.slice e)) (hi:P.info? e=some i) (hz:i.zero=some z) (hzs:z.cells.size=i.size) (hx:AV.R ρ xv xu) (hR:AV.Rs ρ nw nw') (hl:nw'.length=m*i.size) (hm:0<m)
    (hcell:∀ (j:Nat) u,nw'[j]?=some u→w.cell? (a0.add j)=some u) (ones:nw.all AV.one=true) (h:oApp2 s e i.size i.bytes xv nw m=some (v,s')) :
    ∃ ρ' u w',ρ <+: ρ'∧AV.R ρ' v u∧qD w0 ρ' s' w'∧∀ ty,(Builtin.append_ #[t,t] ty #[xu,.slice (some a0) m c]).run P w=.ok u w':=by
  have ok:∀ {k:Nat},okN k i.bytes=true→k≤1099511627776∧k*i.bytes≤140737488355328:=fun h=>by simpa [okN] using h
  unfold oApp2 at h
  split at h
  · obtain ⟨q1,_,h⟩:=two h
    obtain ⟨k1,k2⟩:=ok q1
    split at h
    · rename_i b s2 hn
      cases h
      cases hx
      have hge:=grownCap_ge w m 0 e
      obtain ⟨g1,g2,g3⟩:=hs.grown hn hR hl hge hzs
      exact ⟨_,_,_,g1,⟨_,_,g2,rfl,by omega⟩,g3,fun ty=>run_append_nil w t ty e i z ht hi hz a0 m c nw' hl hcell hm (by omega) (by omega)⟩
    · cases h
  · rename_i b k
    split at h
    · rename_i ty0 es' l hob
      have h0:=two h
      clear h
      obtain ⟨q1,q2,h⟩:=h0
      have q2':es'=i.size∧l.length=k*i.size∧okN (k+m) i.bytes=true:=by
        simpa using q2
      obtain ⟨rfl,q3,q4⟩:=q2'
      have:ty0=e:=by simpa using q1
      subst this
      obtain ⟨k1,k2⟩:=ok q4
      split at h
      · rename_i b' s2 hn
        cases h
        obtain ⟨r,cap,h1,rfl,hcap⟩:=hx
        have hcap':k≤cap:=by omega
        obtain ⟨d1,d2,d3⟩:=hs.obs b r cap h1
        rw [hob] at d3
        obtain ⟨cs,c1,c2,c3,c4⟩:=d3
        have hb':=hs.lt' h1
        have hRl:AV.Rs ρ (l++nw) (cs.toList.take l.length++nw'):=c4.app hR
        have hll:(cs.toList.take l.length++nw').length=(k+m)*i.size:=by
          have e1:(cs.toList.take l.length).length=l.length:=by simp; omega
          rw [List.length_append,e1,q3,hl,Nat.add_mul]
        by_cases room:k+m≤cap
        · have hfit:k*i.size+nw'.length≤cs.size:=by rw [hl,c2,← Nat.add_mul]; exact Nat.mul_le_mul_right _ room
          obtain ⟨g1,g2,g3⟩:=hs.move (c':=cap) (w':=w.setRow r (List.take (k*i.size) cs.toList++nw'++List.drop (k*i.size+nw'.length) cs.toList).toArray) h1 (by rw [hob]; simp) hn (Ql d1) (fun j hj=>setRow_other w r j _ hj) (by
            rw [setRow_heap w r cs _ ty0 _ c1]
            refine ⟨_,rfl,?_,?_,?_⟩
            · simp only [List.size_toArray,List.length_append,List.length_take,List.length_drop,Array.length_toList]
              omega
            · simp only [List.size_toArray,List.length_append,List.length_take,List.length_drop,Array.length_toList,hRl.len]
              omega
            · have:(List.take (k*i.size) cs.toList++nw'++List.drop (k*i.size+nw'.length) cs.toList).take (l++nw).length=cs.toList.take l.length++nw':=by
                rw [hRl.len,q3]
                exact List.take_left
              show AV.Rs _ (l++nw) (List.take (l++nw).length (List.take (k*i.size) cs.toList++nw'++List.drop (k*i.size+nw'.length) cs.toList))
              rw [this]
              exact hRl.mono ⟨_,rfl⟩)
          refine ⟨_,_,_,g1,⟨_,_,g2,rfl,by omega⟩,g3,fun ty=>?_⟩
          have:=run_append_room (P:=P) w t ty ty0 i ht hi r k cap cs c1 a0 m c nw' hl hcell (AV.Rs.ones ones hR) room hfit
          simpa using this
        · have holds:∀ j u,(cs.toList.take l.length)[j]?=some u→w.cell? (Addr.add ⟨r,0,none⟩ j)=some u:=fun j u hu=>by
            rw [qx,Nat.zero_add]
            have hj:j<l.length:=by
              have:=(List.getElem?_eq_some_iff.1 hu).1
              simp at this; omega
            rw [List.getElem?_take_of_lt hj] at hu
            simp only [World.cell?,c1]
            simpa using hu
          have hge:=grownCap_ge w (k+m) cap ty0
          obtain ⟨g1,g2,g3⟩:=(hs.kill hb').grown hn hRl hll hge hzs
          refine ⟨_,_,_,g1,⟨_,_,g2,rfl,by omega⟩,g3,fun ty=>?_⟩
          have hol:(cs.toList.take l.length).length=k*i.size:=by rw [← q3]; simp; omega
          have:=run_append_grow (P:=P) w t ty ty0 i z ht hi hz ⟨r,0,none⟩ k cap _ hol holds a0 m c nw' hl hcell (by omega) (by omega) (growslice_fits (by omega) k2)
          simpa using this
      · cases h
    · cases h
  · cases h
end
end Go.Sl.Ev
namespace Go.Sl.Ev
open Go.RowKit
section
variable {P:Program} {ρ:Rho} {n:Nat} {E:qp} {a:Act} {w w' w0:World} {s s':St} {v:AV}
noncomputable def oApp (P:Program) (E:qp) (s:St) (t t':TypeId) (x y:Operand):Option (AV × St):=match opr E x with
  | some xv=>match opr E y with
    | some yv=>match P.underlying t with
      | some (.slice e)=>match P.info? e with
        | some i=>match i.zero with
          | some z=>match newsA s i.size yv with
            | some (nw,m)=>bif decide (t=t') && (Nat.beq z.cells.size i.size && (Nat.blt 0 i.size && (nw.all AV.one && Nat.blt 0 m))) then oApp2 s e i.size i.bytes xv nw m else none
            | none=>none
          | none=>none
        | none=>none
      | _=>none
    | none=>none
  | none=>none
theorem qhz (ha:Ag ρ n E a) (hs:qD w0 ρ s w) {t t':TypeId} {x y:Operand} (h:oApp P E s t t' x y=some (v,s')):Turns P w0 ρ a w (.call ⟨.builtin .append,#[x,y],#[t,t']⟩) v s':=by
  unfold oApp at h
  split at h
  · rename_i xv hx
    split at h
    · rename_i yv hy
      split at h
      · rename_i e ht
        split at h
        · rename_i i hi
          split at h
          · rename_i z hz
            split at h
            · rename_i nw m hn
              have h0:=two h
              clear h
              obtain ⟨q1,q2,h⟩:=h0
              have q1':t=t':=by simpa using q1
              subst q1'
              have q2':z.cells.size=i.size∧0<i.size∧nw.all AV.one=true∧0<m:=by simpa using q2
              obtain ⟨r1,r2,r3,r4⟩:=q2'
              obtain ⟨ad,c,l',ey,hR,hl,hc⟩:=XD hs hn (ha.opr hy)
              have hpos:0<l'.length:=by rw [hl]; exact Nat.mul_pos r4 r2
              obtain ⟨b0,o0,rfl,_⟩:=hc 0 _ (List.getElem?_eq_getElem hpos)
              obtain ⟨ρ',u,w',g1,g2,g3,g4⟩:=qdj hs ht hi hz r1 (ha.opr hx) hR hl r4 (a0:=⟨b0,o0,none⟩) (c:=c) (fun j u hu=>by
                obtain ⟨b,o,e1,e2⟩:=hc j u hu
                cases e1
                rw [qx]; exact e2) r3 h
              exact ⟨ρ',u,w',g1,g2,g3,fun d ty pos aft g=>.inl (by
                simp [execOp,resolve,invoke,builtin,ey,g4,Result.andThen])⟩
            · cases h
          · cases h
        · cases h
      · cases h
    · cases h
  · cases h
end
end Go.Sl.Ev
namespace Go.Sl.Ev
open Go.RowKit
section
variable {P:Program} {ρ:Rho} {n:Nat} {E:qp} {a:Act} {w w' w0:World} {s s':St} {v:AV}
noncomputable def oMS (P:Program) (E:qp) (s:St) (t:TypeId) (x y:Operand):Option (AV × St):=match opr E x with
  | some xv=>match opr E y with
    | some yv=>match idx xv with
      | some ln=>match idx yv with
        | some cp=>match P.underlying t with
          | some (.slice e)=>match P.info? e with
            | some i=>match i.zero with
              | some z=>match cellsA (lift z) with
                | some zl=>bif Nat.ble ln cp && (Nat.ble (i.bytes*cp) 281474976710656 && (Nat.ble cp 1099511627776 && (Nat.beq zl.length i.size && Nat.blt 0 i.size))) then (match s.new (.c e (zerosA zl (cp*i.size))) with
                  | some (b,s)=>some (.sl b 0 ln cp,s)
                  | none=>none) else none
                | none=>none
              | none=>none
            | none=>none
          | _=>none
        | none=>none
      | none=>none
    | none=>none
  | none=>none
theorem tu_ms (ha:Ag ρ n E a) (hs:qD w0 ρ s w) {t:TypeId} {x y:Operand} (h:oMS P E s t x y=some (v,s')):Turns P w0 ρ a w (.makeSlice t x y) v s':=by
  unfold oMS at h
  split at h
  · rename_i xv hx
    split at h
    · rename_i yv hy
      split at h
      · rename_i ln hln
        split at h
        · rename_i cp hcp
          split at h
          · rename_i e ht
            split at h
            · rename_i i hi
              split at h
              · rename_i z hz
                split at h
                · rename_i zl hzl
                  have h0:=two h
                  clear h
                  obtain ⟨q1,q2,h⟩:=h0
                  have q1':ln≤cp:=by simpa using q1
                  have q2':i.bytes*cp≤281474976710656∧cp≤1099511627776∧zl.length=i.size∧0<i.size:=by simpa using q2
                  obtain ⟨r1,r2,r3,r4⟩:=q2'
                  split at h
                  · rename_i b s2 hn
                    cases h
                    obtain ⟨q,ex⟩:=Z9 hln (ha.opr hx)
                    obtain ⟨q',ey⟩:=Z9 hcp (ha.opr hy)
                    have hzc:=z5 hzl (JF (ρ:=ρ) z)
                    have hR:=YT hzc (by omega) (cp*i.size)
                    obtain ⟨h1,h2,h3⟩:=hs.row hn hR
                    have hb':(i.bytes:Int)*(cp:Int)≤281474976710656:=by
                      have h:((i.bytes*cp:Nat):Int)≤281474976710656:=by omega
                      rwa [Int.natCast_mul] at h
                    have hr:=run_make (P:=P) w t e i z ht hi hz q q' ln cp (by omega) (by omega) hb' (by omega)
                    simp only [Int.toNat_natCast] at hr
                    exact ⟨_,.slice (some ⟨w.heap.size,0,none⟩) ln cp,_,h1,⟨_,_,h2,rfl⟩,h3,fun _ _ _ _ _=>.inl (by
                      simp [execOp,ex,ey,hr,Result.andThen]; rfl)⟩
                  · cases h
                · cases h
              · cases h
            · cases h
          · cases h
        · cases h
      · cases h
    · cases h
  · cases h
end
end Go.Sl.Ev
namespace Go.Sl.Ev
open Go.RowKit
section
variable {P:Program} {ρ:Rho} {n:Nat} {E:qp} {a:Act} {w w' w0:World} {s s':St} {v:AV}
noncomputable def plc:AV→Option (Nat × Nat × Nat)
  | .sl b o k _=>some (b,o,k)
  | .sz b _ o k=>some (b,o,k)
  | _=>none
theorem qak {x:AV} {u:Value} {b o k:Nat} (h:plc x=some (b,o,k)) (hx:AV.R ρ x u):∃ r c cap,ρ[b]?=some (r,c)∧u=.slice (some ⟨r,o,none⟩) k cap:=by
  unfold plc at h
  split at h
  · cases h; obtain ⟨r,c,h1,rfl⟩:=hx; exact ⟨r,c,_,h1,rfl⟩
  · cases h; obtain ⟨r,c,h1,rfl,_⟩:=hx; exact ⟨r,c,_,h1,rfl⟩
  · cases h
noncomputable def oCopy (P:Program) (E:qp) (s:St) (t:TypeId) (x y:Operand):Option (AV × St):=match opr E x with
  | some xv=>match opr E y with
    | some yv=>match P.underlying t with
      | some (.slice e)=>match szOf P e with
        | some es=>match plc xv with
          | some (b,o,k)=>match plc yv with
            | some (b',o',k')=>match s.read b' o' (Nat.min k' k*es) with
              | some l=>match s.write b o l with
                | some s'=>some (.vl (.int .i64 (Nat.min k' k)),s')
                | none=>none
              | none=>none
            | none=>none
          | none=>none
        | none=>none
      | _=>none
    | none=>none
  | none=>none
theorem qfq (ha:Ag ρ n E a) (hs:qD w0 ρ s w) {t t':TypeId} {x y:Operand} (h:oCopy P E s t x y=some (v,s')):Turns P w0 ρ a w (.call ⟨.builtin .copy,#[x,y],#[t,t']⟩) v s':=by
  unfold oCopy at h
  split at h
  · rename_i xv hx
    split at h
    · rename_i yv hy
      split at h
      · rename_i e ht
        split at h
        · rename_i es hes
          split at h
          · rename_i b o k hp
            split at h
            · rename_i b' o' k' hp'
              split at h
              · rename_i l hl
                split at h
                · rename_i s2 hw
                  cases h
                  obtain ⟨r,c,cap,h1,ex⟩:=qak hp (ha.opr hx)
                  obtain ⟨r',c',cap',h1',ey⟩:=qak hp' (ha.opr hy)
                  obtain ⟨l',g1,g2,g3⟩:=hs.read h1' hl
                  obtain ⟨w',g4,g5⟩:=hs.write (P:=P) h1 hw g1
                  have hcs:=run_loadCells_list (P:=P) (w:=w) ⟨r',o',none⟩ l' (fun j u hu=>by rw [qx]; exact g3 j u hu)
                  rw [g2] at hcs
                  exact ⟨ρ,_,w',⟨[],by simp⟩,rfl,g5,fun _ _ _ _ _=>.inl (by
                    simp [execOp,resolve,invoke,builtin,Builtin.copy_,ex,ey,run_underlying ht,zB hes,Builtin.lenOf,Builtin.firstCells,hcs,g4,goInt,Result.andThen])⟩
                · cases h
              · cases h
            · cases h
          · cases h
        · cases h
      · cases h
    · cases h
  · cases h
end
end Go.Sl.Ev
namespace Go.Sl.Ev
open Go.RowKit
section
variable {P:Program} {ρ:Rho} {n:Nat} {E:qp} {a:Act} {w w' w0:World} {s s':St} {v:AV}
noncomputable def oClear (P:Program) (E:qp) (t:TypeId) (x:Operand):Option AV:=match opr E x with
  | some (.vl (.slice none 0 0))=>match P.underlying t with
    | some (.slice _)=>some (.tu [])
    | _=>none
  | _=>none
theorem qdP (ha:Ag ρ n E a) {t:TypeId} {x:Operand} (h:oClear P E t x=some v):Reads P ρ a w [] (.call ⟨.builtin .clear,#[x],#[t]⟩) v:=by
  unfold oClear at h
  split at h
  · rename_i hx
    split at h
    · rename_i e ht
      cases h
      have ex:a.eval x=_:=ha.opr hx
      exact ⟨_,⟨#[],rfl,trivial⟩,fun _ _ _ _ _ w' _=>by
        simp [execOp,resolve,invoke,builtin,Builtin.clear_,ex,run_underlying ht,Result.andThen]⟩
    · cases h
  · cases h
end
end Go.Sl.Ev
namespace Go.Sl.Ev
open Go.RowKit
open Go.ChangeMaps (setBlock)
section
variable {P:Program} {ρ:Rho} {n:Nat} {E:qp} {a:Act} {w w' w0:World} {s s':St} {v:AV}
noncomputable def findA (q:IntKind) (i:Int):List (Value × AV)→Nat→Option (Option (Nat × AV))
  | [],_=>some none
  | (.int q' j,x)::l,m=>bif decide (q=q') then (bif decide (i=j) then some (some (m,x)) else findA q i l (m+1)) else none
  | _::_,_=>none
theorem QR {q:IntKind} {i:Int} {q0:IntKind}:∀ {l:List (Value × AV)} {es:List MapEntry} {m:Nat} {r:Option (Nat × AV)},findA q i l m=some r→es.map (·.key)=l.map (·.1)→AV.Rs ρ (l.map (·.2)) (es.map (·.val)) →
    ∃ r',Instr.findNow (.int q0) (.int q i) es m=some r'∧match r with
      | none=>r'=none
      | some (j,x)=>∃ y e,r'=some (j,y)∧AV.R ρ x y∧m≤j∧es[j-m]?=some e∧e.key=.int q i
  | [],[],m,r,h,_,_=>by cases h; exact ⟨none,rfl,rfl⟩
  | [],_::_,_,_,_,hk,_=>by simp at hk
  | _::_,[],_,_,_,hk,_=>by simp at hk
  | (k,x)::l,e::es,m,r,h,hk,hv=>by
    simp only [List.map_cons,List.cons.injEq] at hk
    obtain ⟨hk1,hk2⟩:=hk
    obtain ⟨hv1,hv2⟩:=(show AV.R ρ x e.val∧AV.Rs ρ (l.map (·.2)) (es.map (·.val)) from hv)
    cases k with
    | int q' j =>
      simp only [findA] at h
      by_cases hq:q=q'
      · subst hq
        simp only [decide_true,cond_true] at h
        by_cases hi:i=j
        · subst hi
          simp only [decide_true,cond_true,Option.some.injEq] at h
          subst h
          refine ⟨some (m,e.val),?_,e.val,e,rfl,hv1,Nat.le_refl _,by simp,hk1⟩
          simp [Instr.findNow,hk1,Instr.sameNow]
        · simp only [hi,decide_false,cond_false] at h
          obtain ⟨r',h1,h2⟩:=QR (q0:=q0) h hk2 hv2
          have e1:(i == j)=false:=by simpa using hi
          refine ⟨r',by simp [Instr.findNow,hk1,Instr.sameNow,e1,h1],?_⟩
          cases r with
          | none=>exact h2
          | some p =>
            obtain ⟨j',x'⟩:=p
            obtain ⟨y,e',g1,g2,g3,g4,g5⟩:=h2
            exact ⟨y,e',g1,g2,by omega,by rw [show j'-m=(j'-(m+1))+1 by omega]; simpa using g4,g5⟩
      · simp [hq] at h
    | _=>simp [findA] at h
noncomputable def entsA (s:St):AV→Option (List (Value × AV))
  | .mh b=>match s.ob b with
    | .mp l=>some l
    | _=>none
  | .vl (.map none)=>some []
  | _=>none
noncomputable def oLookup (P:Program) (E:qp) (s:St) (t:TypeId) (x y:Operand) (ok:Bool):Option AV:=match opr E x with
  | some xv=>match opr E y with
    | some (.vl (.int q i))=>match P.underlying t with
      | some (.map K e)=>match P.underlying K with
        | some (.int q')=>match zrOf P e with
          | some z=>match entsA s xv with
            | some l=>bif decide (q=q') then (match findA q i l 0 with
              | some none=>some (bif ok then .tu [lift z,.vl (.bool false)] else lift z)
              | some (some (_,u))=>some (bif ok then .tu [u,.vl (.bool true)] else u)
              | none=>none) else none
            | none=>none
          | none=>none
        | _=>none
      | _=>none
    | _=>none
  | none=>none
noncomputable def lookV (ok:Bool) (z:Value):Option (Nat × Value)→Value
  | some (_,u)=>if ok then .tuple #[u,.bool true] else u
  | none=>if ok then .tuple #[z,.bool false] else z
theorem qdL {K e t:TypeId} {q:IntKind} {i:Int} {z:Value} {r:Option (Nat × Value)} {es:Array MapEntry} {k b:Nat} {ok:Bool} (hK:P.underlying K=some (.int q)) (ht:P.underlying t=some (.map K e)) (hz:zrOf P e=some z) (hb:w.heap[b]?=some (.map es k)) (hr:Instr.findNow (.int q) (.int q i) es.toList 0=some r) :
    (Instr.lookup t (.map (some b)) (.int q i) ok).run P w=.ok (lookV ok z r) w:=by
  have hf:=MapKept.run_findKey (P:=P) (w:=w) hK hr
  simp only [Instr.lookup,Sem.run_bind,run_underlying ht,Result.andThen,MapKept.run_getObj_map hb,Sem.run_pure,(Xi hK).check,hf]
  cases r with
  | none=>simp only [Sem.run_bind,YC hz,Result.andThen,Sem.run_pure]; rfl
  | some p=>obtain ⟨j,u⟩:=p; simp only [Sem.run_pure,Result.andThen]; rfl
theorem qcM {K e t:TypeId} {q:IntKind} {i:Int} {z:Value} {r:Option (Nat × Value)} {ok:Bool} (hK:P.underlying K=some (.int q)) (ht:P.underlying t=some (.map K e)) (hz:zrOf P e=some z) (hr:Instr.findNow (.int q) (.int q i) [] 0=some r) :
    (Instr.lookup t (.map none) (.int q i) ok).run P w=.ok (lookV ok z r) w:=by
  have hf:=MapKept.run_findKey (P:=P) (w:=w) hK hr
  simp only [Instr.lookup,Sem.run_bind,run_underlying ht,Result.andThen,Sem.run_pure,(Xi hK).check,hf]
  cases r with
  | none=>simp only [Sem.run_bind,YC hz,Result.andThen,Sem.run_pure]; rfl
  | some p=>obtain ⟨j,u⟩:=p; simp only [Sem.run_pure,Result.andThen]; rfl
theorem qcH (ha:Ag ρ n E a) (hs:qD w0 ρ s w) {t:TypeId} {x y:Operand} {ok:Bool} (h:oLookup P E s t x y ok=some v):Turns P w0 ρ a w (.lookup t x y ok) v s:=by
  unfold oLookup at h
  split at h
  · rename_i xv hx
    split at h
    · rename_i q i hy
      split at h
      · rename_i K e ht
        split at h
        · rename_i q' hK
          split at h
          · rename_i z hz
            split at h
            · rename_i l hl
              by_cases hq:q=q'
              · subst hq
                simp only [decide_true,cond_true] at h
                have ey:a.eval y=.int q i:=ha.opr hy
                have hX:=ha.opr hx
                have hes:∃ (es:List MapEntry),es.map (·.key)=l.map (·.1)∧AV.Rs ρ (l.map (·.2)) (es.map (·.val)) ∧
                    ∀ (r:Option (Nat × Value)),Instr.findNow (.int q) (.int q i) es 0=some r→(Instr.lookup t (a.eval x) (.int q i) ok).run P w=.ok (lookV ok z r) w:=by
                  unfold entsA at hl
                  split at hl
                  · rename_i b
                    split at hl
                    · rename_i l' ho
                      cases hl
                      obtain ⟨r,c,h1,ex⟩:=hX
                      obtain ⟨_,_,h4⟩:=hs.obs b r c h1
                      rw [ho] at h4
                      obtain ⟨es,k,e1,e2,e3⟩:=h4
                      exact ⟨es.toList,e2,e3,fun r' hr=>by rw [ex]; exact qdL hK ht hz e1 hr⟩
                    · cases hl
                  · cases hl
                    have ex:a.eval x=_:=hX
                    exact ⟨[],rfl,trivial,fun r' hr=>by rw [ex]; exact qcM hK ht hz hr⟩
                  · cases hl
                obtain ⟨es,e1,e2,run⟩:=hes
                split at h
                · rename_i hf
                  cases h
                  obtain ⟨r',g1,g2⟩:=QR (q0:=q) hf e1 e2
                  simp only at g2
                  subst g2
                  have hrun:=run _ g1
                  cases ok with
                  | true=>exact ⟨ρ,_,w,⟨[],by simp⟩,⟨#[z,.bool false],rfl,JF z,rfl,trivial⟩,hs,fun _ _ _ _ _=>.inl (by simp [execOp,ey,hrun,lookV,Result.andThen])⟩
                  | false=>exact ⟨ρ,_,w,⟨[],by simp⟩,JF z,hs,fun _ _ _ _ _=>.inl (by simp [execOp,ey,hrun,lookV,Result.andThen])⟩
                · rename_i j u hf
                  cases h
                  obtain ⟨r',g1,g2⟩:=QR (q0:=q) hf e1 e2
                  obtain ⟨y',_,rfl,hR,_⟩:=g2
                  have hrun:=run _ g1
                  cases ok with
                  | true=>exact ⟨ρ,_,w,⟨[],by simp⟩,⟨#[y',.bool true],rfl,hR,rfl,trivial⟩,hs,fun _ _ _ _ _=>.inl (by simp [execOp,ey,hrun,lookV,Result.andThen])⟩
                  | false=>exact ⟨ρ,_,w,⟨[],by simp⟩,hR,hs,fun _ _ _ _ _=>.inl (by simp [execOp,ey,hrun,lookV,Result.andThen])⟩
                · cases h
              · simp [hq] at h
            · cases h
          · cases h
        · cases h
      · cases h
    · cases h
  · cases h
noncomputable def oMM_ (s:St):Option (AV × St):=match s.new (.mp []) with
  | some (b,s)=>some (.mh b,s)
  | none=>none
theorem qaY (hs:qD w0 ρ s w) {t:TypeId} (h:oMM_ s=some (v,s')):Turns P w0 ρ a w (.makeMap t none) v s':=by
  unfold oMM_ at h
  split at h
  · rename_i b s2 hn
    cases h
    obtain ⟨h1,h2,h3⟩:=hs.add (c:=0) hn (QA w (.map #[] 0)) (Nat.le_refl _) (by rw [World.size_alloc]; omega) (by
      rw [World.alloc_heap_new]
      exact ⟨#[],0,rfl,rfl,trivial⟩)
    exact ⟨_,_,_,h1,⟨_,_,h2,rfl⟩,h3,fun _ _ _ _ _=>.inl (by simp [execOp,run_makeMap,Result.andThen])⟩
  · cases h
noncomputable def oMU (P:Program) (E:qp) (s:St) (t:TypeId) (x y z:Operand):Option St:=match opr E x with
  | some (.mh b)=>match opr E y with
    | some (.vl (.int q i))=>match opr E z with
      | some u=>match P.underlying t with
        | some (.map K e)=>match P.underlying K with
          | some (.int q')=>match s.ob b with
            | .mp l=>bif decide (q=q') then (match findA q i l 0 with
              | some none=>some (s.put b (.mp (l++[(.int q i,u)])))
              | some (some (j,_))=>some (s.put b (.mp (setL l j (.int q i,u))))
              | none=>none) else none
            | _=>none
          | _=>none
        | _=>none
      | none=>none
    | _=>none
  | _=>none
theorem AV.Rs.setAt {ρ:Rho}:∀ {l:List AV} {m:List Value} {x:AV} {y:Value} (j:Nat),AV.Rs ρ l m→AV.R ρ x y→AV.Rs ρ (l.set j x) (m.set j y)
  | [],[],_,_,_,_,_=>trivial
  | _::_,_::_,_,_,0,h,hx=>⟨hx,h.2⟩
  | _::_,_::_,_,_,j+1,h,hx=>⟨h.1,AV.Rs.setAt j h.2 hx⟩
  | [],_::_,_,_,_,h,_=>by simp [AV.Rs] at h
  | _::_,[],_,_,_,h,_=>by simp [AV.Rs] at h
theorem ZY {w:World} {r k:Nat} {o:Obj} (h:k≠r):(setBlock w r o).heap[k]?=w.heap[k]?:=by
  simp only [setBlock]; rw [Array.getElem?_setIfInBounds_ne (Ne.symm h)]
theorem Jt {w:World} {r:Nat} {o:Obj} (h:r<w.heap.size):(setBlock w r o).heap[r]?=some o:=by
  simp [setBlock,h]
theorem tu_mu (ha:Ag ρ n E a) (hs:qD w0 ρ s w) {t:TypeId} {x y z:Operand} (h:oMU P E s t x y z=some s'):Turns P w0 ρ a w (.mapUpdate t x y z) (.vl undef) s':=by
  unfold oMU at h
  split at h
  · rename_i b hx
    split at h
    · rename_i q i hy
      split at h
      · rename_i u hz
        split at h
        · rename_i K e ht
          split at h
          · rename_i q' hK
            split at h
            · rename_i l ho
              by_cases hq:q=q'
              · subst hq
                simp only [decide_true,cond_true] at h
                have ey:a.eval y=.int q i:=ha.opr hy
                obtain ⟨r,c,h1,ex⟩:=ha.opr hx
                obtain ⟨h2,h3,h4⟩:=hs.obs b r c h1
                rw [ho] at h4
                obtain ⟨es,k,e1,e2,e3⟩:=h4
                have hR:=ha.opr hz
                have hc:=(Xi hK).check false i w
                split at h
                · rename_i hf
                  cases h
                  obtain ⟨r',g1,g2⟩:=QR (q0:=q) hf e2 e3
                  simp only at g2
                  subst g2
                  have hfk:=MapKept.run_findKey (P:=P) (w:=w) hK g1
                  refine ⟨ρ,undef,setBlock w r (.map (es.push { key:=.int q i,val:=a.eval z,born:=k }) (k+1)),⟨[],by simp⟩,rfl,hs.turn h1 (by rw [ho]; simp) (ZZ h2) (fun j hj=>ZY hj) ?_,fun _ _ _ _ _=>.inr ⟨?_,rfl⟩⟩
                  · rw [Jt h3]
                    refine ⟨_,_,rfl,by simp [e2],?_⟩
                    simp only [Array.toList_push,List.map_append,List.map_cons,List.map_nil]
                    exact e3.app ⟨hR,trivial⟩
                  · simp only [execOp]
                    have:(Instr.mapUpdate t (a.eval x) (a.eval y) (a.eval z)).run P w=.ok () (setBlock w r (.map (es.push { key:=.int q i,val:=a.eval z,born:=k }) (k+1))):=by
                      rw [ex,ey]
                      simp only [Instr.mapUpdate,Sem.run_bind,run_underlying ht,Result.andThen,MapKept.run_getObj_map e1,hc,hfk,MapKept.run_setObj_map _ e1,setBlock]
                    simp [this,Result.andThen]
                · rename_i j u0 hf
                  cases h
                  obtain ⟨r',g1,g2⟩:=QR (q0:=q) hf e2 e3
                  obtain ⟨y',e',rfl,_,_,g5,g6⟩:=g2
                  simp only [Nat.sub_zero] at g5
                  have hfk:=MapKept.run_findKey (P:=P) (w:=w) hK g1
                  have hj:es[j]?=some e':=by simpa using g5
                  refine ⟨ρ,undef,setBlock w r (.map (es.modify j fun e=>{ e with key:=.int q i,val:=a.eval z }) k),⟨[],by simp⟩,rfl,hs.turn h1 (by rw [ho]; simp) (ZZ h2) (fun j hj=>ZY hj) ?_,fun _ _ _ _ _=>.inr ⟨?_,rfl⟩⟩
                  · rw [Jt h3]
                    have em:∀ {β:Type} (f:MapEntry→β) (g:β),(∀ e:MapEntry,f { e with key:=.int q i,val:=a.eval z }=g)→(es.toList.modify j fun e=>{ e with key:=.int q i,val:=a.eval z }).map f=(es.toList.map f).set j g:=by
                      intro β f g hg
                      apply List.ext_getElem?
                      intro m
                      by_cases hm:j=m
                      · subst hm
                        simp only [List.getElem?_map,List.getElem?_modify,if_true]
                        rw [List.getElem?_set_self (by simp; exact (List.getElem?_eq_some_iff.1 g5).1)]
                        simp [g5,hg]
                      · simp only [List.getElem?_map,List.getElem?_modify,if_neg hm]
                        rw [List.getElem?_set_ne hm]
                        simp
                    refine ⟨_,_,rfl,?_,?_⟩
                    · rw [Array.toList_modify,em (·.key) (.int q i) (fun _=>rfl),e2,KK,List.map_set]
                    · rw [Array.toList_modify,em (·.val) (a.eval z) (fun _=>rfl),KK,List.map_set]
                      exact e3.setAt j hR
                  · simp only [execOp]
                    have hst:(Instr.keyThatStays (.int q i) (.int q i)).run P w=.ok (.int q i) w:=by simp [Instr.keyThatStays,Instr.sameBits]
                    have:(Instr.mapUpdate t (a.eval x) (a.eval y) (a.eval z)).run P w=.ok () (setBlock w r (.map (es.modify j fun e=>{ e with key:=.int q i,val:=a.eval z }) k)):=by
                      rw [ex,ey]
                      simp only [Instr.mapUpdate,Sem.run_bind,run_underlying ht,Result.andThen,MapKept.run_getObj_map e1,hc,hfk,hj,Option.map_some,g6,Option.getD_some,hst,MapKept.run_setObj_map _ e1,setBlock]
                    simp [this,Result.andThen]
                · cases h
              · simp [hq] at h
            · cases h
          · cases h
        · cases h
      · cases h
    · cases h
  · cases h
end
end Go.Sl.Ev
namespace Go.Sl.Ev
open Go.RowKit
section
variable {P:Program} {ρ:Rho} {n:Nat} {E:qp} {a:Act} {w w' w0:World} {s s':St} {v:AV}
noncomputable def oSlice3 (P:Program) (E:qp) (t:TypeId) (x:Operand) (lo:Option Operand) (hi mx:Operand):Option AV:=match opr E x with
  | some xv=>match P.underlying t with
    | some (.slice e)=>match szOf P e with
      | some es=>match bdOf E 0 lo with
        | some l=>match bdOf E 0 (some hi) with
          | some h=>match bdOf E 0 (some mx) with
            | some m=>match xv with
              | .sl b o _ c=>bif Nat.ble l h && (Nat.ble h m && Nat.ble m c) then some (.sl b (bif Nat.beq m l then o else o+l*es) (h-l) (m-l)) else none
              | .sz b _ o k=>bif Nat.ble l h && (Nat.ble h m && Nat.ble m k) then some (.sl b (bif Nat.beq m l then o else o+l*es) (h-l) (m-l)) else none
              | _=>none
            | none=>none
          | none=>none
        | none=>none
      | none=>none
    | _=>none
  | none=>none
theorem YY {len cap l hh m:Nat} {lo:Option Value} {hi mx:Value} (hlo:BdR 0 l lo) (hhi:BdR 0 hh (some hi)) (hm:BdR 0 m (some mx)) (h1:l≤hh) (h2:hh≤m) (h3:m≤cap) (w:World):(Instr.sliceBounds true len cap lo (some hi) (some mx)).run P w=.ok (l,hh,m) w:=by
  obtain ⟨q,rfl⟩:=hhi
  obtain ⟨q',rfl⟩:=hm
  cases lo with
  | none =>
    have hl:l=0:=hlo
    subst hl
    simp [Instr.sliceBounds,Instr.sliceBound,asIntOf,h2,h3,Result.andThen]
  | some o' =>
    obtain ⟨q',rfl⟩:=hlo
    simp [Instr.sliceBounds,Instr.sliceBound,asIntOf,h1,h2,h3,Result.andThen]
theorem qcR (ha:Ag ρ n E a) {t:TypeId} {x:Operand} {lo:Option Operand} {hi mx:Operand} (h:oSlice3 P E t x lo hi mx=some v):Reads P ρ a w [] (.slice t x lo (some hi) (some mx)) v:=by
  unfold oSlice3 at h
  split at h
  · rename_i xv hx
    have hX:=ha.opr hx
    split at h
    · rename_i e ht
      split at h
      · rename_i es hes
        split at h
        · rename_i l hl
          split at h
          · rename_i hh hhi
            split at h
            · rename_i m hm
              have b1:=ha.bd hl
              have b2:=ha.bd hhi
              have b3:=ha.bd hm
              split at h
              · rename_i b o k c
                obtain ⟨p1,p2,h⟩:=two h
                cases h
                obtain ⟨p2,p3⟩:hh≤m∧m≤c:=by simpa using p2
                obtain ⟨r,c',h1,ex⟩:=hX
                refine ⟨_,⟨r,c',h1,rfl⟩,fun _ _ _ _ _ w' _=>?_⟩
                have hb:=YY (P:=P) (len:=k) b1 b2 b3 (by simpa using p1) p2 p3 w'
                rw [KV]
                simp [execOp,ex,Instr.sliceAt,Instr.slice,run_underlying ht,hb,zB hes,Result.andThen]
                split <;> simp [qx]
              · rename_i b lo' o k
                obtain ⟨p1,p2,h⟩:=two h
                cases h
                obtain ⟨p2,p3⟩:hh≤m∧m≤k:=by simpa using p2
                obtain ⟨r,c',h1,ex,hc⟩:=hX
                refine ⟨_,⟨r,c',h1,rfl⟩,fun _ _ _ _ _ w' _=>?_⟩
                have hb:=YY (P:=P) (len:=k) (cap:=c'-lo') b1 b2 b3 (by simpa using p1) p2 (by omega) w'
                rw [KV]
                simp [execOp,ex,Instr.sliceAt,Instr.slice,run_underlying ht,hb,zB hes,Result.andThen]
                split <;> simp [qx]
              · cases h
            · cases h
          · cases h
        · cases h
      · cases h
    · cases h
  · cases h
noncomputable def isSlA:AV→Bool
  | .vl (.slice none 0 0)=>true
  | .sl _ _ k c=>Nat.ble k c
  | .sz _ _ _ _=>true
  | _=>false
theorem qbo {x:AV} {u:Value} (h:isSlA x=true) (hx:AV.R ρ x u):∃ ad k c,u=.slice ad k c∧k≤c:=by
  unfold isSlA at h
  split at h
  · cases hx; exact ⟨_,_,_,rfl,Nat.le_refl _⟩
  · obtain ⟨r,c,_,rfl⟩:=hx; exact ⟨_,_,_,rfl,by simpa using h⟩
  · obtain ⟨r,c,_,rfl,hc⟩:=hx; exact ⟨_,_,_,rfl,by omega⟩
  · cases h
theorem QE {size m c:Nat} {ad:Option Addr} (h0:m*size=0):(Builtin.firstCells size m (.slice ad m c)).run P w=.ok #[] w:=by
  cases ad with
  | none=>simp [Builtin.firstCells]
  | some b =>
    have:=run_loadCells_list (P:=P) (w:=w) b [] (fun j u hu=>by simp at hu)
    simp only [List.length_nil] at this
    simp [Builtin.firstCells,h0,this]
noncomputable def oAppB (P:Program) (E:qp) (s:St) (t t':TypeId) (x y:Operand):Option (AV × St):=match opr E x with
  | some xv=>match opr E y with
    | some yv=>match P.underlying t with
      | some (.slice e)=>match P.info? e with
        | some i=>match i.zero with
          | some z=>match newsA s i.size yv with
            | some (nw,m)=>bif decide (t=t') then (bif Nat.beq m 0 then (bif isSlA xv then some (xv,s) else none)
                else match xv with
                  | .sl b o k c=>bif Nat.ble (k+m) c then (match s.write b (o+k*i.size) nw with
                      | some s'=>some (.sl b o (k+m) c,s')
                      | none=>none)
                    else bif Nat.beq z.cells.size i.size && okN (k+m) i.bytes then (match s.read b o (k*i.size) with
                      | some l=>match s.new (.w e i.size (l++nw)) with
                        | some (b',s')=>some (.sz b' 0 0 (k+m),s')
                        | none=>none
                      | none=>none) else none
                  | _=>none) else none
            | none=>none
          | none=>none
        | none=>none
      | _=>none
    | none=>none
  | none=>none
theorem qfr (ha:Ag ρ n E a) (hs:qD w0 ρ s w) {t t':TypeId} {x y:Operand} (h:oAppB P E s t t' x y=some (v,s')):Turns P w0 ρ a w (.call ⟨.builtin .append,#[x,y],#[t,t']⟩) v s':=by
  unfold oAppB at h
  split at h
  · rename_i xv hx
    split at h
    · rename_i yv hy
      split at h
      · rename_i e ht
        split at h
        · rename_i i hi
          split at h
          · rename_i z hz
            split at h
            · rename_i nw m hn
              have hX:=ha.opr hx
              by_cases htt:t=t'
              · subst htt
                simp only [decide_true,cond_true] at h
                obtain ⟨ad,c,l',ey,hR,hl,hc⟩:=XD hs hn (ha.opr hy)
                by_cases hm:m=0
                · subst hm
                  simp only [Nat.beq_refl,cond_true] at h
                  cases hsl:isSlA xv with
                  | false=>rw [hsl] at h; cases h
                  | true =>
                    rw [hsl] at h; cases h
                    obtain ⟨ad',k,c',ex,hle⟩:=qbo hsl hX
                    refine ⟨ρ,a.eval x,w,⟨[],by simp⟩,hX,hs,fun d ty pos aft g=>.inl ?_⟩
                    have hf:=QE (P:=P) (w:=w) (size:=i.size) (m:=0) (c:=c) (ad:=ad) (by simp)
                    have:(Builtin.append_ #[t,t] ty #[.slice ad' k c',.slice ad 0 c]).run P w=.ok (.slice ad' k c') w:=by
                      cases ad' <;> simp [Builtin.append_,run_underlying ht,sizeOf,typeInfo,hi,Builtin.lenOf,hle,hf,storeCells]
                    simp [execOp,resolve,invoke,builtin,ex,ey,this,Result.andThen]
                · rw [zz hm] at h
                  simp only [cond_false] at h
                  split at h
                  · rename_i b o k cc
                    obtain ⟨r,c0,h1,ex⟩:=hX
                    have hf:(Builtin.firstCells i.size m (.slice ad m c)).run P w=.ok l'.toArray w:=by
                      cases l' with
                      | nil=>exact QE (by simpa using hl.symm)
                      | cons u l' =>
                        obtain ⟨b0,o0,rfl,_⟩:=hc 0 u rfl
                        exact run_firstCells_some (P:=P) w i.size m ⟨b0,o0,none⟩ m c (u::l') hl (fun j u hu=>by
                          obtain ⟨b1,o1,e1,e2⟩:=hc j u hu
                          cases e1; rw [qx]; exact e2)
                    cases hroom:Nat.ble (k+m) cc with
                    | true =>
                      rw [hroom] at h
                      simp only [cond_true] at h
                      split at h
                      · rename_i s2 hw
                        cases h
                        obtain ⟨w',g1,g2⟩:=hs.write (P:=P) h1 hw hR
                        have hroom':k+m≤cc:=by simpa using hroom
                        refine ⟨ρ,_,w',⟨[],by simp⟩,⟨r,c0,h1,rfl⟩,g2,fun d ty pos aft g=>.inl ?_⟩
                        have:(Builtin.append_ #[t,t] ty #[.slice (some ⟨r,o,none⟩) k cc,.slice ad m c]).run P w=.ok (.slice (some ⟨r,o,none⟩) (k+m) cc) w':=by
                          simp [Builtin.append_,run_underlying ht,sizeOf,typeInfo,hi,Builtin.lenOf,hroom',hf,qx,g1]
                        simp [execOp,resolve,invoke,builtin,ex,ey,this,Result.andThen]
                      · cases h
                    | false =>
                      rw [hroom] at h
                      simp only [cond_false] at h
                      have h0:=two h
                      clear h
                      obtain ⟨q1,q2,h⟩:=h0
                      have q1':z.cells.size=i.size:=by simpa using q1
                      obtain ⟨k1,k2⟩:k+m≤1099511627776∧(k+m)*i.bytes≤140737488355328:=by simpa [okN] using q2
                      have hroom':cc<k+m:=by
                        rcases Nat.lt_or_ge cc (k+m) with h | h
                        · exact h
                        · rw [Nat.ble_eq_true_of_le h] at hroom; cases hroom
                      split at h
                      · rename_i l hrd
                        split at h
                        · rename_i b' s2 hn2
                          cases h
                          obtain ⟨olds,o1,o2,o3⟩:=hs.read h1 hrd
                          have hge:=grownCap_ge w (k+m) cc e
                          have hll:(olds++l').length=(k+m)*i.size:=by rw [List.length_append,o2,hl,Nat.add_mul]
                          obtain ⟨g1,g2,g3⟩:=hs.grown hn2 (o1.app hR) hll hge q1'
                          refine ⟨_,_,_,g1,⟨_,_,g2,rfl,by omega⟩,g3,fun d ty pos aft g=>.inl ?_⟩
                          have hfd:∀ w2:World,(∀ (j:Nat) u,l'[j]?=some u→∀ b o,w.cell? ⟨b,o+j,none⟩=some u→w2.cell? ⟨b,o+j,none⟩=some u)→(Builtin.firstCells i.size m (.slice ad m c)).run P w2=.ok l'.toArray w2:=fun w2 hw2=>by
                            cases l' with
                            | nil=>exact QE (by simpa using hl.symm)
                            | cons u l' =>
                              obtain ⟨b0,o0,rfl,_⟩:=hc 0 u rfl
                              exact run_firstCells_some (P:=P) w2 i.size m ⟨b0,o0,none⟩ m c (u::l') hl (fun j u hu=>by
                                obtain ⟨b1,o1,e1,e2⟩:=hc j u hu
                                cases e1; rw [qx]; exact hw2 j u hu _ _ e2)
                          have hf':=hfd w.drew (fun _ _ _ _ _ h=>by simpa using h)
                          have hfo:=run_firstCells_some (P:=P) w.drew i.size k ⟨r,o,none⟩ k cc olds o2 (fun j u hu=>by
                            rw [qx]; simpa using o3 j u hu)
                          have hn:¬ (k+m≤cc):=by omega
                          have h63':¬ (9223372036854775807<((k:Int)+(m:Int))):=by omega
                          have hfit:=growslice_fits hroom' k2
                          have h48':¬ (281474976710656<Builtin.nextslicecap (k+m) cc*i.bytes):=by omega
                          have:(Builtin.append_ #[t,t] ty #[.slice (some ⟨r,o,none⟩) k cc,.slice ad m c]).run P w=.ok (.slice (some ⟨w.heap.size,0,none⟩) (k+m) (grownCap w (k+m) cc e)) (w.drew.alloc (.cells ((olds++l').toArray++Builtin.zeroCells z.cells (grownCap w (k+m) cc e-(k+m))) e)):=by
                            simp [Builtin.append_,run_underlying ht,sizeOf,typeInfo,zeroValue,hi,hz,Builtin.lenOf,hn,h63',h48',Question.forced,hf',hfo,newRow,grownCap]
                            congr 2
                            apply Array.ext'
                            simp [List.append_assoc]
                          simp [execOp,resolve,invoke,builtin,ex,ey,this,Result.andThen]
                        · cases h
                      · cases h
                  · cases h
              · simp [htt] at h
            · cases h
          · cases h
        · cases h
      · cases h
    · cases h
  · cases h
end
end Go.Sl.Ev
namespace Go.Sl.Ev
open Go.RowKit
section
variable {P:Program} {ρ:Rho} {n:Nat} {E:qp} {a:Act} {w w' w0:World} {s s':St} {v:AV}
noncomputable def oRead (P:Program) (E:qp) (s:St):Op→Option AV
  | .move x=>opr E x
  | .assign x=>opr E x
  | .extract x i=>oExtract E x i
  | .nilCheck x=>oNil E x
  | .pick c x y=>oPick E c x y
  | .fieldAddr t x f=>oFA P E t x f
  | .field t x f=>oField P E t x f
  | .makeFunc (.func g) fl cl=>oFunc E g fl.toList cl.toList
  | .unOp op _ x=>oUn E op x
  | .convert t u x=>oConv P E t u x
  | .load t x=>oLoad P E s t x
  | .indexAddr t x y=>oIA P E t x y
  | .index t x y=>oIx P E t x y
  | .build t ps=>oBuild P E t ps.toList
  | .binOp op t x y _=>oBin P E op t x y
  | .slice t x lo hi none=>oSlice P E t x lo hi
  | .slice t x lo (some hi) (some mx)=>oSlice3 P E t x lo hi mx
  | .call ⟨.builtin .len,⟨[x]⟩,⟨[t]⟩⟩=>oLen P E t x
  | .call ⟨.builtin .clear,⟨[x]⟩,⟨[t]⟩⟩=>oClear P E t x
  | .call ⟨.builtin .min,⟨[x,y]⟩,_⟩=>oMM E false x y
  | .call ⟨.builtin .max,⟨[x,y]⟩,_⟩=>oMM E true x y
  | _=>none
noncomputable def fRead (P:Program) (E:qp):Op→List (Nat × Nat)
  | .load t x=>fLoad P E t x
  | _=>[]
theorem XC (ha:Ag ρ n E a) (hs:qD w0 ρ s w):∀ {op:Op},oRead P E s op=some v→Reads P ρ a w (fRead P E op) op v
  | .move _,h=>qfC ha h
  | .assign _,h=>qcS ha h
  | .extract _ _,h=>qbc ha h
  | .nilCheck _,h=>qhE ha h
  | .pick _ _ _,h=>qfB ha h
  | .fieldAddr _ _ _,h=>rd_fa ha h
  | .field _ _ _,h=>qdO ha h
  | .makeFunc (.func _) _ _,h=>qfE ha h
  | .unOp _ _ _,h=>rd_un ha h
  | .convert _ _ _,h=>qfF ha h
  | .load _ _,h=>qfD ha hs h
  | .indexAddr _ _ _,h=>rd_ia ha h
  | .index _ _ _,h=>rd_ix ha h
  | .build _ _,h=>qdQ ha h
  | .binOp _ _ _ _ _,h=>qhI ha h
  | .slice _ _ _ _ none,h=>qdN ha h
  | .slice _ _ _ (some _) (some _),h=>qcR ha h
  | .call ⟨.builtin .len,⟨[_]⟩,⟨[_]⟩⟩,h=>qhH ha h
  | .call ⟨.builtin .clear,⟨[_]⟩,⟨[_]⟩⟩,h=>qdP ha h
  | .call ⟨.builtin .min,⟨[_,_]⟩,_⟩,h=>qhF ha h
  | .call ⟨.builtin .max,⟨[_,_]⟩,_⟩,h=>qhG ha h
end
end Go.Sl.Ev
namespace Go.Sl.Ev
open Go.RowKit
section
variable {P:Program} {ρ:Rho} {n:Nat} {E:qp} {a:Act} {w w' w0:World} {s s':St} {v:AV}
inductive Ex where
  | nrm
  | ext (id:Nat)
  | ret
inductive Rq where
  | code (rd:Option Nat) (c:Code) (E:qp) (ds:List Nat)
  | fn (f:FuncId) (args:List AV)
  | round (l:Nat) (args:List AV)
inductive Rs where
  | ex (x:Ex) (E:qp) (ds:List Nat)
  | val (v:AV)
noncomputable def oTurn (P:Program) (E:qp) (s:St):Op→Option (AV × St)
  | .alloc t=>oAlloc P s t
  | .box t x=>oBox E s t x
  | .store t x y=>match oStore P E s t x y with
    | some s'=>some (.vl undef,s')
    | none=>none
  | .buildSlice t k ps=>oBS P E s t k ps.toList
  | .makeSlice t x y=>oMS P E s t x y
  | .makeMap _ none=>oMM_ s
  | .lookup t x y ok=>match oLookup P E s t x y ok with
    | some v=>some (v,s)
    | none=>none
  | .mapUpdate t x y z=>match oMU P E s t x y z with
    | some s'=>some (.vl undef,s')
    | none=>none
  | .call ⟨.builtin .append,⟨[x,y]⟩,⟨[t,t']⟩⟩=>match oApp P E s t t' x y with
    | some r=>some r
    | none=>oAppB P E s t t' x y
  | .call ⟨.builtin .copy,⟨[x,y]⟩,⟨[t,_]⟩⟩=>oCopy P E s t x y
  | _=>none
theorem qbg (ha:Ag ρ n E a) (hs:qD w0 ρ s w):∀ {op:Op},oTurn P E s op=some (v,s')→Turns P w0 ρ a w op v s'
  | .alloc _,h=>qdC hs h
  | .box _ _,h=>qhy ha hs h
  | .store _ _ _,h=>by
    simp only [oTurn] at h
    split at h
    · rename_i s2 h2; cases h; exact qdB ha hs h2
    · cases h
  | .buildSlice _ _ _,h=>tu_bs ha hs h
  | .makeSlice _ _ _,h=>tu_ms ha hs h
  | .makeMap _ none,h=>qaY hs h
  | .lookup _ _ _ _,h=>by
    simp only [oTurn] at h
    split at h
    · rename_i s2 h2; cases h; exact qcH ha hs h2
    · cases h
  | .mapUpdate _ _ _ _,h=>by
    simp only [oTurn] at h
    split at h
    · rename_i s2 h2; cases h; exact tu_mu ha hs h2
    · cases h
  | .call ⟨.builtin .append,⟨[_,_]⟩,⟨[_,_]⟩⟩,h=>by
    simp only [oTurn] at h
    split at h
    · rename_i s2 h2; cases h; exact qhz ha hs h2
    · exact qfr ha hs h
  | .call ⟨.builtin .copy,⟨[_,_]⟩,⟨[_,_]⟩⟩,h=>qfq ha hs h
noncomputable def Post (w0:World) (ρ:Rho) (L:List (Rs × St)):Ending→World→Prop:=fun e w'=>∃ v s' ρ' u,(Rs.val v,s')∈L∧ρ <+: ρ'∧e=.returned u∧AV.R ρ' v u∧qD w0 ρ' s' w'
noncomputable def Dag (ρ:Rho):List Nat→List Deferred→Prop
  | [],[]=>True
  | d::ds,m::ms=>(∃ D c,ρ[d]?=some (D,c)∧m=mark D)∧Dag ρ ds ms
  | _,_=>False
theorem Dag.mono {ρ ρ':Rho} (h:ρ <+: ρ'):∀ {ds:List Nat} {ms:List Deferred},Dag ρ ds ms→Dag ρ' ds ms
  | [],[],_=>trivial
  | _::_,_::_,⟨⟨D,c,h1,h2⟩,h3⟩=>⟨⟨D,c,zQ h h1,h2⟩,Dag.mono h h3⟩
  | [],_::_,hd=>by simp [Dag] at hd
  | _::_,[],hd=>by simp [Dag] at hd
noncomputable def exOf:Ex→Exit
  | .nrm=>.normal
  | .ext id=>.exit id
  | .ret=>.ret
noncomputable def RdR (ρ:Rho):Option Nat→Option Nat→Prop
  | none,none=>True
  | some l,some r=>∃ c,ρ[l]?=some (r,c)
  | _,_=>False
theorem RdR.mono {ρ ρ':Rho} (h:ρ <+: ρ'):∀ {x y:Option Nat},RdR ρ x y→RdR ρ' x y
  | none,none,_=>trivial
  | some _,some _,⟨c,h1⟩=>⟨c,zQ h h1⟩
  | none,some _,hr=>by simp [RdR] at hr
  | some _,none,hr=>by simp [RdR] at hr
noncomputable def EndE (w0:World) (ρ:Rho) (L:List (Rs × St)) (Q:Exit→Act→World→Prop):Prop :=
  ∀ x E' ds' s',(Rs.ex x E' ds',s')∈L→∀ ρ' a' w',ρ <+: ρ'→Ag ρ' E'.length E' a'→Dag ρ' ds' a'.defers→qD w0 ρ' s' w'→Q (exOf x) a' w'
theorem EndE.mono {w0:World} {ρ ρ':Rho} {L:List (Rs × St)} {Q:Exit→Act→World→Prop} (hp:ρ <+: ρ') (h:EndE w0 ρ L Q):EndE w0 ρ' L Q :=
  fun x E' ds' s' hm ρ2 a' w' h1 h2 h3 h4=>h x E' ds' s' hm ρ2 a' w' (hp.trans h1) h2 h3 h4
theorem EndE.sub {w0:World} {ρ:Rho} {L L':List (Rs × St)} {Q:Exit→Act→World→Prop} (hs:∀ y∈L',y∈L) (h:EndE w0 ρ L Q):EndE w0 ρ L' Q :=
  fun x E' ds' s' hm=>h x E' ds' s' (hs _ hm)
noncomputable def bindL {α β:Type}:List α→(α→Option (List β))→Option (List β)
  | [],_=>some []
  | x::l,f=>match f x with
    | some r=>match bindL l f with
      | some r'=>some (r++r')
      | none=>none
    | none=>none
theorem QS {α β:Type} {f:α→Option (List β)}:∀ {l:List α} {R:List β},bindL l f=some R→∀ x∈l,∃ r,f x=some r∧∀ y∈r,y∈R
  | y::l,R,h,x,hx=>by
    simp only [bindL] at h
    split at h
    · rename_i r hr
      split at h
      · rename_i r' hr'
        cases h
        rcases List.mem_cons.1 hx with rfl | hx
        · exact ⟨r,hr,fun y hy=>List.mem_append_left _ hy⟩
        · obtain ⟨r2,h1,h2⟩:=QS hr' x hx
          exact ⟨r2,h1,fun y hy=>List.mem_append_right _ (h2 y hy)⟩
      · cases h
    · cases h
  | [],_,_,x,hx=>by cases hx
structure Xe (P:Program) (w0:World) (rec_:Rq→St→Option (List (Rs × St))):Prop where
  fn:∀ {f:FuncId} {args:List AV} {s:St} {L:List (Rs × St)},rec_ (.fn f args) s=some L→∀ {ρ:Rho} {w:World} {args':List Value},AV.Rs ρ args args'→qD w0 ρ s w→CallsIn Fence.wide 0 P f args'.toArray w (Post w0 ρ L)
  enter:∀ {f:FuncId} {args:List AV} {s:St} {L:List (Rs × St)},rec_ (.fn f args) s=some L→∀ args' w,(callFunc f args').run P w=.ok (.enter f args') w
  round:∀ {l:Nat} {args:List AV} {s:St} {L:List (Rs × St)},rec_ (.round l args) s=some L→∀ {ρ:Rho} {w:World} {args':List Value} {r c:Nat},ρ[l]?=some (r,c)→AV.Rs ρ args args'→qD w0 ρ s w→YieldAt Fence.wide 0 P r args'.toArray w (Post w0 ρ L)
  code:∀ {rd:Option Nat} {c:Code} {E:qp} {ds:List Nat} {s:St} {L:List (Rs × St)},rec_ (.code rd c E ds) s=some L→∀ {ρ:Rho} {a:Act} {w:World} {rd':Option Nat} {Q:Exit→Act→World→Prop},RdR ρ rd rd'→Ag ρ E.length E a→Dag ρ ds a.defers→qD w0 ρ s w→EndE w0 ρ L Q→c.wpIn (fen rd') 0 P Q a w
noncomputable def Does (P:Program) (rd:Option Nat) (w0:World) (ρ:Rho) (a:Act) (w:World) (o:Oper) (R:List (AV × St)):Prop :=
  ∀ (K:Act→World→Prop) (Q:Exit→Act→World→Prop),(∀ v s',(v,s')∈R→∀ ρ' u w',ρ <+: ρ'→AV.R ρ' v u→qD w0 ρ' s' w'→K (a.put o.dst u) w')→o.wpIn (fen rd) 0 P a w K Q
theorem qdc {rd:Option Nat} {L:List (Nat × Nat)} {d:Option Nat} {op:Op} {ty:TypeId} {pos:String} {aft:Array Edge} {g:Option (Nat × Bool)} (hs:qD w0 ρ s w) (h:Reads P ρ a w L op v) (hnd:∀ c,op≠.defer c):Does P rd w0 ρ a w ⟨d,op,ty,pos,aft,g⟩ [(v,s)]:=fun K Q hK=>by
  obtain ⟨u,hu,hr⟩:=h
  refine ⟨fun _ _=>trivial,?_⟩
  rw [Oper.semAt_eq _ _ _ hnd,hr d ty pos aft g w (fun _ _ _ _ _=>rfl),Oper.uponIn_value]
  exact hK v s List.mem_cons_self ρ u w ⟨[],by simp⟩ hu hs
theorem qdb {rd:Option Nat} {d:Option Nat} {op:Op} {ty:TypeId} {pos:String} {aft:Array Edge} {g:Option (Nat × Bool)} (h:Turns P w0 ρ a w op v s') (hnd:∀ c,op≠.defer c):Does P rd w0 ρ a w ⟨d,op,ty,pos,aft,g⟩ [(v,s')]:=fun K Q hK=>by
  obtain ⟨ρ',u,w',h1,h2,h3,hr⟩:=h
  refine ⟨fun _ _=>trivial,?_⟩
  rw [Oper.semAt_eq _ _ _ hnd]
  rcases hr d ty pos aft g with hr2 | ⟨hr2,he⟩
  · rw [hr2,Oper.uponIn_value]; exact hK v s' List.mem_cons_self ρ' u w' h1 h2 h3
  · rw [hr2,Oper.uponIn_skip,← he]; exact hK v s' List.mem_cons_self ρ' _ w' h1 h2 h3
variable (rec_:Rq→St→Option (List (Rs × St)))
noncomputable def vals:List (Rs × St)→Option (List (AV × St))
  | []=>some []
  | (.val v,s)::l=>match vals l with
    | some r=>some ((v,s)::r)
    | none=>none
  | (.ex _ _ _,_)::_=>none
theorem YB:∀ {L:List (Rs × St)} {R:List (AV × St)},vals L=some R→∀ {v:AV} {s:St},(Rs.val v,s)∈L→(v,s)∈R
  | (.val v0,s0)::l,R,h,v,s,hm=>by
    simp only [vals] at h
    split at h
    · rename_i r hr
      cases h
      rcases List.mem_cons.1 hm with e | hm
      · cases e; exact List.mem_cons_self
      · exact List.mem_cons_of_mem _ (YB hr hm)
    · cases h
  | (.ex _ _ _,_)::_,_,h,_,_,_=>by cases h
  | [],_,_,_,_,hm=>by cases hm
noncomputable def oCall (E:qp) (s:St) (x:Operand) (l:List Operand):Option (List (AV × St)):=match opr E x with
  | some (.fn g fa ca)=>match oprs E l with
    | some vs=>match rec_ (.fn g (fa++vs++ca)) s with
      | some L=>vals L
      | none=>none
    | none=>none
  | some (.yi b)=>match oprs E l with
    | some vs=>match rec_ (.round b vs) s with
      | some L=>vals L
      | none=>none
    | none=>none
  | _=>none
variable {rec_}
theorem qdd {rd:Option Nat} (hg:Xe P w0 rec_) (ha:Ag ρ n E a) (hs:qD w0 ρ s w) {x:Operand} {l:Array Operand} {tys:Array TypeId} {d:Option Nat} {ty:TypeId} {pos:String} {aft:Array Edge} {g:Option (Nat × Bool)} {R:List (AV × St)} (h:oCall rec_ E s x l.toList=some R) :
    Does P rd w0 ρ a w ⟨d,.call ⟨.value x,l,tys⟩,ty,pos,aft,g⟩ R:=fun K Q hK=>by
  unfold oCall at h
  split at h
  · rename_i f fa ca hx
    split at h
    · rename_i vs hvs
      split at h
      · rename_i L hr
        obtain ⟨fa',ca',ex,h1,h2⟩:=ha.opr hx
        have hv:=ha.oprs hvs
        have hargs:AV.Rs ρ (fa++vs++ca) (fa'.toList++l.toList.map a.eval++ca'.toList):=(h1.app hv).app h2
        have hc:=hg.fn hr hargs hs
        have hen:=hg.enter hr (fa'++l.map a.eval++ca') w
        have e1:(fa'.toList++l.toList.map a.eval++ca'.toList).toArray=fa'++l.map a.eval++ca':=by
          apply Array.ext'; simp
        rw [e1] at hc
        refine ⟨fun _ _=>trivial,?_⟩
        rw [Oper.semAt_eq _ _ _ (fun _ h=>by cases h),show (execOp a.eval ⟨d,.call ⟨.value x,l,tys⟩,ty,pos,aft,g⟩).run P w=.ok (.enter f (fa'++l.map a.eval++ca')) w by
          rw [Array.append_assoc] at hen ⊢; simp [execOp,resolve,ex,Deferred.ofValue,invoke,hen,Result.andThen],Oper.uponIn_enter]
        refine ⟨fun h=>by simp [Fence.wide] at h,?_⟩
        have hc':CallsIn (fen rd) 0 P f (fa'++l.map a.eval++ca') w _:=hc
        refine hc'.mono ?_
        rintro e w' ⟨v,s',ρ',u,p0,p1,rfl,p2,p3⟩
        exact hK v s' (YB h p0) ρ' u w' p1 p2 p3
      · cases h
    · cases h
  · rename_i b hx
    split at h
    · rename_i vs hvs
      split at h
      · rename_i L hr
        obtain ⟨r,c,hb,ex⟩:=ha.opr hx
        have hv:=ha.oprs hvs
        obtain ⟨fn,tmps,asg,body,hy,hrd⟩:=hg.round hr hb hv hs
        have e1:(l.toList.map a.eval).toArray=l.map a.eval:=by apply Array.ext'; simp
        rw [e1] at hy
        refine ⟨fun _ _=>trivial,?_⟩
        rw [Oper.semAt_eq _ _ _ (fun _ h=>by cases h),show (execOp a.eval ⟨d,.call ⟨.value x,l,tys⟩,ty,pos,aft,g⟩).run P w=.ok (.round r fn tmps asg body) w by
          simp [execOp,resolve,ex,Deferred.ofValue,invoke,hy,Result.andThen],Oper.uponIn_round]
        refine ⟨fun h=>by simp [Fence.wide] at h,?_⟩
        have hrd':RoundIn (fen rd) 0 P r fn tmps asg body w _:=hrd
        refine hrd'.mono ?_
        rintro e w' ⟨v,s',ρ',u,p0,p1,rfl,p2,p3⟩
        exact hK v s' (YB h p0) ρ' u w' p1 p2 p3
      · cases h
    · cases h
  · cases h
end
end Go.Sl.Ev
namespace Go.Sl.Ev
open Go.RowKit
section
variable {rd:Option Nat} {P:Program} {ops:Array Oper} {Q:Exit→Act→World→Prop}
noncomputable def anyF (rd:Option Nat) (P:Program) (ops:Array Oper) (C:Array Bool→World→Prop) (Q:Exit→Act→World→Prop):Nat→Array Bool→Act→World→Prop
  | 0,l,a,w=>C l w∧Region.ready .any ops l=[]∧Q .normal a w
  | f+1,l,a,w=>C l w∧(Region.ready .any ops l=[]→Q .normal a w)∧∀ i∈Region.ready .any ops l,wpOpIn (fen rd) 0 P ops Q i (anyF rd P ops C Q f (l.setIfInBounds i true)) a w
theorem anyF.here {C:Array Bool→World→Prop} {f:Nat} {l:Array Bool} {a:Act} {w:World} (h:anyF rd P ops C Q f l a w):C l w:=by
  cases f <;> exact h.1
theorem anyF.any {C:Array Bool→World→Prop}:∀ {f:Nat} {l:Array Bool} {a:Act} {w:World},anyF rd P ops C Q f l a w→wpAnyIn (fen rd) 0 P .any ops Q f l a w
  | 0,_,_,_,h=>h.2
  | f+1,_,_,_,h=>⟨h.2.1,fun i hi=>wpOpIn_mono (fun _ _ h=>h.any) (h.2.2 i hi)⟩
noncomputable def Above (l l':Array Bool):Prop:=∀ j,l.getD j false=true→l'.getD j false=true
theorem YM (l:Array Bool) (i:Nat):Above l (l.setIfInBounds i true):=fun j hj=>by
  by_cases h:i=j
  · subst h
    rcases Nat.lt_or_ge i l.size with h' | h'
    · simp [Array.getD_eq_getD_getElem?,h']
    · simp [Array.getD_eq_getD_getElem?,Array.getElem?_eq_none h'] at hj
  · simpa [Array.getD_eq_getD_getElem?,Array.getElem?_setIfInBounds_ne h] using hj
theorem anyF.mono {C C':Array Bool→World→Prop} {l0:Array Bool} (hC:∀ l w,Above l0 l→C' l w→C l w):∀ {f:Nat} {l:Array Bool} {a:Act} {w:World},Above l0 l→anyF rd P ops C' Q f l a w→anyF rd P ops C Q f l a w
  | 0,_,_,_,hl,h=>⟨hC _ _ hl h.1,h.2⟩
  | f+1,l,_,_,hl,h=>⟨hC _ _ hl h.1,h.2.1,fun i hi=>wpOpIn_mono (fun _ _ h=>h.mono hC (fun j hj=>YM l i j (hl j hj))) (h.2.2 i hi)⟩
noncomputable def NB (ops:Array Oper) (l:Array Bool) (i:Nat):Prop:=∀ j oj,ops[j]?=some oj→l.getD j false=true→∀ e∈oj.after,Region.binds .any e=true→e.on≠i
theorem Zi {l:Array Bool} {j k:Nat} (h:(l.setIfInBounds j true).getD k false=true):k=j∨l.getD k false=true:=by
  by_cases e:j=k
  · exact .inl e.symm
  · exact .inr (by simpa [Array.getD_eq_getD_getElem?,Array.getElem?_setIfInBounds_ne e] using h)
theorem qbF {C C':Array Bool→World→Prop} {D:World→Prop} {i:Nat} {oi:Oper} {v:Value} (hi:ops[i]?=some oi) (hsel:∀ (j:Nat) (o:Oper) cs b,ops[j]?=some o→o.op≠.select cs b) (hnd:∀ (j:Nat) (o:Oper),ops[j]?=some o→∀ c,o.op≠.defer c) (hQ:∀ c a w,Q (.panic c) (a.put oi.dst v) w→Q (.panic c) a w)
    (hC2:∀ l w,C' l w→C l w) (hCD:∀ l w,NB ops l i→l.getD i true=false→C' (l.setIfInBounds i true) w→D w∧C l w) :
    ∀ (f:Nat) (l:Array Bool) (a:Act) (w:World),
      (∀ j oj,ops[j]?=some oj→j≠i→l.getD j true=false→(∀ e∈oj.after,Region.binds .any e=true→e.on≠i)→oi.apart ops oj=true) →
      NB ops l i→i∈Region.ready .any ops l→QV P ops D oi v a→anyF rd P ops C' Q f (l.setIfInBounds i true) (a.put oi.dst v) w→anyF rd P ops C Q (f+1) l a w:=by
  have all:∀ {f:Nat} {l:Array Bool} {a:Act} {w:World},anyF rd P ops C' Q f l a w→anyF rd P ops C Q f l a w:=fun h=>anyF.mono (l0:=#[]) (fun l w _ h=>hC2 l w h) (fun j hj=>by simp at hj) h
  intro f
  induction f with
  | zero =>
    intro l a w _ hnb hr hy H
    obtain ⟨hD,hC⟩:=hCD l w hnb (mem_ready.1 hr).1 H.1
    refine ⟨hC,fun h=>(by rw [h] at hr; cases hr),fun j hj=>?_⟩
    by_cases hji:j=i
    · subst hji; exact Rd.takesG_op hi (hnd _ _ hi) hy hD (all H)
    · have:=ready_mono hj hji
      rw [H.2.1] at this
      cases this
  | succ f ih =>
    intro l a w hfree hnb hr hy H
    obtain ⟨hD,hC⟩:=hCD l w hnb (mem_ready.1 hr).1 H.1
    refine ⟨hC,fun h=>(by rw [h] at hr; cases hr),fun j hj=>?_⟩
    by_cases hji:j=i
    · subst hji; exact Rd.takesG_op hi (hnd _ _ hi) hy hD (all H)
    · have h1:=H.2.2 j (ready_mono hj hji)
      obtain ⟨hjun,oj,hoj,hall⟩:=mem_ready.1 hj
      have hnot:∀ e∈oj.after,Region.binds .any e=true→e.on≠i:=fun e he hb heq=>by
        have h1:=hall e he hb
        have h0:=(mem_ready.1 hr).1
        rw [heq] at h1
        rcases Nat.lt_or_ge i l.size with h' | h'
        · simp [h'] at h0 h1; rw [h0] at h1; cases h1
        · simp [Array.getElem?_eq_none h'] at h1
      have h2:=Rd.op_putC hoj (hnd _ _ hoj) (hfree j oj hoj hji hjun hnot) (fun cs b=>hsel i oi cs b hi) (fun cs b=>hsel j oj cs b hoj) hQ h1
      have hfree':∀ k ok,ops[k]?=some ok→k≠i→(l.setIfInBounds j true).getD k true=false →
          (∀ e∈ok.after,Region.binds .any e=true→e.on≠i)→oi.apart ops ok=true:=fun k ok hk hki hun hno=>by
        refine hfree k ok hk hki ?_ hno
        by_cases hjk:j=k
        · subst hjk; exact hjun
        · rw [getD_set_ne true hjk] at hun; exact hun
      have hnb':NB ops (l.setIfInBounds j true) i:=fun k ok hk hl=>by
        rcases Zi hl with rfl | hl
        · rw [hoj] at hk; cases hk; exact hnot
        · exact hnb k ok hk hl
      refine wpOpIn_mono (fun a' w' h3=>ih (l.setIfInBounds j true) a' w' hfree' hnb' (ready_mono hr (Ne.symm hji)) (hy.pass h3.1) ?_) h2
      rw [Array.setIfInBounds_comm _ _ hji]
      exact h3.2
end
end Go.Sl.Ev
