/-
  Own work: a small logic for walking through a function's code: facts on slots, owned blocks of memory, and its rules; of any program.
-/
import Derived.WalkKit
import Derived.RangeFuncRecord
import Derived.Sort.QuietThIn
import Derived.Sort.LoopGhostIn
import Derived.ProofKit
import Derived.OpenShut
import Derived.Deep.DeepHandedRow
import Derived.Deep.DeepWitnessRowRef
import Derived.Lib.LaidTab
import Derived.SevenTiedAt
import Derived.Laws.OwnMore
import Derived.Laws.MakeOwn
import Derived.Laws.AppendOwn
import Derived.RangeFuncNested
import Derived.OrdersIn
import Derived.Laws.StructEq
set_option linter.all false
set_option linter.unusedSimpArgs false
set_option linter.unusedVariables false
namespace Go.Sl
open Go.RowKit
abbrev Env:=List (Nat × Value)
def look:Env→Nat→Option Value
  | [],_=>none
  | (y,v)::e,x=>bif Nat.beq y x then some v else look e x
def opv (env:Env):Operand→Option Value
  | .tmp t=>look env t
  | .const v=>some v
  | .global g=>some (.pointer (some ⟨g,0,none⟩))
  | .func f=>some (.func (.func f) #[] #[])
theorem zz {a b:Nat} (h:¬ a=b):Nat.beq a b=false:=by
  cases hb:Nat.beq a b with
  | false=>rfl
  | true=>exact absurd (Nat.eq_of_beq_eq_true hb) h
structure qL (n:Nat) (env:Env) (a:Act):Prop where
  size:a.tmps.size=n
  val:∀ x v,look env x=some v→a.tmps.getD x undef=v
theorem qL.opv {n:Nat} {env:Env} {a:Act} (h:qL n env a) {x:Operand} {v:Value} (hx:opv env x=some v):a.eval x=v:=by
  cases x with
  | tmp t=>exact h.val t v hx
  | const u=>simpa [Sl.opv,Act.eval] using hx
  | global g=>simpa [Sl.opv,Act.eval] using hx
  | func f=>simpa [Sl.opv,Act.eval] using hx
def put (d:Option Nat) (v:Value) (env:Env):Env :=
  match d with
  | some d=>(d,v)::env
  | none=>env
def dok (n:Nat) (d:Option Nat):Bool :=
  match d with
  | some d=>Nat.blt d n
  | none=>true
theorem qL.put {n:Nat} {env:Env} {a:Act} (h:qL n env a) {d:Option Nat} {v:Value} (hd:dok n d=true):qL n (put d v env) (a.put d v):=by
  cases d with
  | none=>exact h
  | some d =>
    have hd':d<n:=by simpa [dok,Nat.blt_eq] using hd
    refine ⟨by simp [Act.put,h.size],fun x u hx=>?_⟩
    simp only [Sl.put,look] at hx
    by_cases hxd:d=x
    · subst hxd
      have hx':v=u:=by simpa using hx
      subst hx'
      simp [Act.put,Array.getD_eq_getD_getElem?,h.size,hd']
    · have hbeq:Nat.beq d x=false:=zz hxd
      rw [hbeq] at hx
      have:=h.val x u (by simpa using hx)
      simp only [Act.put,Array.getD_eq_getD_getElem?] at this ⊢
      rw [Array.getElem?_setIfInBounds_ne hxd]
      exact this
def sub (env' env:Env):Prop:=∀ p∈env',look env p.1=some p.2
theorem qL.weaken {n:Nat} {env env':Env} {a:Act} (h:qL n env a) (hs:∀ x v,look env' x=some v→look env x=some v):qL n env' a :=
  ⟨h.size,fun x v hx=>h.val x v (hs x v hx)⟩
theorem qao:∀ {env:Env} {x:Nat} {v:Value},look env x=some v→(x,v)∈env
  | (y,u)::e,x,v,h=>by
    simp only [look] at h
    by_cases hxy:Nat.beq y x=true
    · rw [hxy] at h
      have:y=x:=by simpa using hxy
      subst this
      have:u=v:=by simpa using h
      subst this
      exact List.mem_cons_self
    · have hf:Nat.beq y x=false:=by cases hb:Nat.beq y x <;> simp_all
      rw [hf] at h
      exact List.mem_cons_of_mem _ (qao (by simpa using h))
theorem Z7 {env env':Env} (h:sub env' env):∀ x v,look env' x=some v→look env x=some v :=
  fun x v hx=>h (x,v) (qao hx)
theorem qm (env:Env):sub [] env:=fun _ h=>by cases h
theorem qc {x:Nat} {v:Value} {e env:Env} (h:look env x=some v) (hs:sub e env):sub ((x,v)::e) env:=fun p hp=>by
  cases hp with
  | head=>exact h
  | tail _ h'=>exact hs p h'
inductive Blk where
  | cells (e:TypeId) (tot:Nat) (l:List Value)
  | obj (o:Obj)
abbrev qg:=List (Nat × Blk)
def At (w:World) (b:Nat):Blk→Prop
  | .cells e tot l=>∃ c,w.heap[b]?=some (.cells c e (0,0))∧c.size=tot∧c.toList.take l.length=l
  | .obj o=>w.heap[b]?=some o
structure Sat (w0:World) (H:qg) (w:World):Prop where
  below:Below w0.heap.size w0 w
  nodup:(H.map (·.1)).Nodup
  own:∀ p∈H,w0.heap.size≤p.1∧At w p.1 p.2
theorem At.of_block {w w':World} {b:Nat} {k:Blk} (h:At w b k) (e:w'.heap[b]?=w.heap[b]?):At w' b k:=by
  cases k with
  | cells t tot l=>obtain ⟨c,h1,h2⟩:=h; exact ⟨c,e.trans h1,h2⟩
  | obj o=>exact e.trans h
theorem At.lt {w:World} {b:Nat} {k:Blk} (h:At w b k):b<w.heap.size:=by
  cases k with
  | cells t tot l=>obtain ⟨c,h1,h2⟩:=h; exact (Array.getElem?_eq_some_iff.1 h1).1
  | obj o=>exact (Array.getElem?_eq_some_iff.1 h).1
theorem Sat.below' {w0 w w':World} {H:qg} (h:Sat w0 H w) (hb:Below w.heap.size w w'):Sat w0 H w' :=
  ⟨h.below.trans (hb.mono h.below.size),h.nodup,fun p hp=>⟨(h.own p hp).1,(h.own p hp).2.of_block (hb.block _ (h.own p hp).2.lt)⟩⟩
theorem Sat.drew {w0 w:World} {H:qg} (h:Sat w0 H w):Sat w0 H w.drew:=h.below' (Below.refl _ _).drew
theorem Sat.drop {w0 w:World} {p:Nat × Blk} {H:qg} (h:Sat w0 (p::H) w):Sat w0 H w :=
  ⟨h.below,(List.nodup_cons.1 h.nodup).2,fun q hq=>h.own q (List.mem_cons_of_mem _ hq)⟩
theorem Sat.perm {w0 w:World} {H H':qg} (h:Sat w0 H w) (hp:H.Perm H'):Sat w0 H' w :=
  ⟨h.below,(hp.map (·.1)).nodup_iff.1 h.nodup,fun q hq=>h.own q (hp.mem_iff.2 hq)⟩
theorem Sat.sublist {w0 w:World} {H H':qg} (h:Sat w0 H w) (hp:List.Sublist H' H):Sat w0 H' w :=
  ⟨h.below,h.nodup.sublist (hp.map (·.1)),fun q hq=>h.own q (hp.subset hq)⟩
theorem Sat.nil {w0 w:World} (h:Below w0.heap.size w0 w):Sat w0 [] w:=⟨h,List.nodup_nil,fun _ h=>by cases h⟩
theorem Sat.alloc {w0 w:World} {H:qg} (h:Sat w0 H w) (o:Obj) {k:Blk} (hk:At (w.alloc o) w.heap.size k):Sat w0 ((w.heap.size,k)::H) (w.alloc o):=by
  have hb:Below w.heap.size w (w.alloc o):=(Below.refl _ _).alloc (Nat.le_refl _) o
  have h':=h.below' hb
  refine ⟨h'.below,?_,fun p hp=>?_⟩
  · simp only [List.map_cons,List.nodup_cons]
    refine ⟨fun hm=>?_,h.nodup⟩
    obtain ⟨q,hq,he⟩:=List.mem_map.1 hm
    have:=(h.own q hq).2.lt
    omega
  · cases hp with
    | head=>exact ⟨h.below.size,hk⟩
    | tail _ hp=>exact h'.own p hp
theorem At.alloc_cells (w:World) (c:Array Value) (t:TypeId):At (w.alloc (.cells c t)) w.heap.size (.cells t c.size c.toList) :=
  ⟨c,World.alloc_heap_new w _,rfl,List.take_of_length_le (by simp)⟩
theorem At.alloc_obj (w:World) (o:Obj):At (w.alloc o) w.heap.size (.obj o):=World.alloc_heap_new w o
theorem At.cell {w:World} {b i:Nat} {e tot:Nat} {l:List Value} {v:Value} (h:At w b (.cells e tot l)) (hv:l[i]?=some v):w.cell? ⟨b,i,none⟩=some v:=by
  obtain ⟨c,h1,h2,h3⟩:=h
  simp only [World.cell?,h1]
  have hl:i<l.length:=(List.getElem?_eq_some_iff.1 hv).1
  have h4:(c.toList.take l.length)[i]?=some v:=by rw [h3]; exact hv
  rw [List.getElem?_take_of_lt hl] at h4
  simpa using h4
theorem At.frozen {w:World} {b i:Nat} {e tot:Nat} {l:List Value} (h:At w b (.cells e tot l)):w.frozen? ⟨b,i,none⟩=false:=by
  obtain ⟨c,h1,h2⟩:=h
  simp [World.frozen?,h1]
theorem Sat.cell {w0 w:World} {H:qg} (h:Sat w0 H w) {b i e tot:Nat} {l:List Value} {v:Value} (hm:(b,Blk.cells e tot l)∈H) (hv:l[i]?=some v):w.cell? ⟨b,i,none⟩=some v :=
  (h.own _ hm).2.cell hv
theorem Sat.frozen {w0 w:World} {H:qg} (h:Sat w0 H w) {b i e tot:Nat} {l:List Value} (hm:(b,Blk.cells e tot l)∈H):w.frozen? ⟨b,i,none⟩=false :=
  (h.own _ hm).2.frozen
theorem Sat.old {w0 w:World} {H:qg} (h:Sat w0 H w) {a:Addr} {v:Value} (hv:w0.cell? a=some v):w.cell? a=some v:=by
  have hlt:a.block<w0.heap.size:=by
    unfold World.cell? at hv
    cases hh:w0.heap[a.block]? with
    | none=>simp [hh] at hv
    | some o=>exact (Array.getElem?_eq_some_iff.1 hh).1
  rw [h.below.cell hlt]; exact hv
inductive Upd (b:Nat) (k:Blk) (k':Blk):qg→qg→Prop
  | head (H:qg):Upd b k k' ((b,k)::H) ((b,k')::H)
  | tail {p:Nat × Blk} {H H':qg} (h:Upd b k k' H H'):Upd b k k' (p::H) (p::H')
  | app {S H H':qg} (h:Upd b k k' H H'):Upd b k k' (S++H) (S++H')
theorem Upd.mem {b:Nat} {k k':Blk} {H H':qg} (h:Upd b k k' H H'):(b,k)∈H:=by
  induction h with
  | head H=>exact List.mem_cons_self
  | tail _ ih=>exact List.mem_cons_of_mem _ ih
  | app _ ih=>exact List.mem_append_right _ ih
theorem Upd.keys {b:Nat} {k k':Blk} {H H':qg} (h:Upd b k k' H H'):H'.map (·.1)=H.map (·.1):=by
  induction h with
  | head H=>rfl
  | tail _ ih=>simp [ih]
  | app _ ih=>simp [ih]
theorem Upd.cases {b:Nat} {k k':Blk} {H H':qg} (h:Upd b k k' H H'):∀ p∈H',p=(b,k')∨p∈H:=by
  induction h with
  | head H=>intro p hp; cases hp with
    | head=>exact .inl rfl
    | tail _ hp=>exact .inr (List.mem_cons_of_mem _ hp)
  | tail _ ih=>intro p hp; cases hp with
    | head=>exact .inr List.mem_cons_self
    | tail _ hp => rcases ih p hp with h | h
                   · exact .inl h
                   · exact .inr (List.mem_cons_of_mem _ h)
  | app _ ih => intro p hp; rcases List.mem_append.1 hp with hp | hp
                · exact .inr (List.mem_append_left _ hp)
                · rcases ih p hp with h | h
                  · exact .inl h
                  · exact .inr (List.mem_append_right _ h)
theorem qbn {H:qg} (hn:(H.map (·.1)).Nodup) {p q:Nat × Blk} (hp:p∈H) (hq:q∈H) (he:p.1=q.1):p=q:=by
  induction H with
  | nil=>cases hp
  | cons x H ih =>
    simp only [List.map_cons,List.nodup_cons] at hn
    cases hp with
    | head=>cases hq with
      | head=>rfl
      | tail _ hq=>exact absurd (List.mem_map.2 ⟨q,hq,he.symm⟩) hn.1
    | tail _ hp=>cases hq with
      | head=>exact absurd (List.mem_map.2 ⟨p,hp,he⟩) hn.1
      | tail _ hq=>exact ih hn.2 hp hq
theorem Sat.upd {w0 w w':World} {H H':qg} {b:Nat} {k k':Blk} (h:Sat w0 H w) (hu:Upd b k k' H H') (hb:Below w0.heap.size w w')
    (hother:∀ j,j≠b→j<w.heap.size→w'.heap[j]?=w.heap[j]?) (hk:At w' b k'):Sat w0 H' w':=by
  refine ⟨h.below.trans hb,by rw [hu.keys]; exact h.nodup,fun p hp=>?_⟩
  by_cases he:p.1=b
  · have hm:(b,k')∈H':=by
      clear hk hb h hp
      induction hu with
      | head H=>exact List.mem_cons_self
      | tail _ ih=>exact List.mem_cons_of_mem _ ih
      | app _ ih=>exact List.mem_append_right _ ih
    have:p=(b,k'):=qbn (by rw [hu.keys]; exact h.nodup) hp hm he
    subst this
    exact ⟨(h.own _ hu.mem).1,hk⟩
  · rcases hu.cases p hp with e | hm
    · exact absurd (by rw [e]) he
    · exact ⟨(h.own p hm).1,(h.own p hm).2.of_block (hother _ he (h.own p hm).2.lt)⟩
inductive It where
  | code (c:Code)
  | blk (id:Nat)
  | ops (all:Array Oper) (l:List Oper)
  | goal (J:Act→World→Prop)
abbrev fen (rd:Option Nat):Fence:={ Fence.wide with round:=rd }
def zC (P:Program) (rd:Option Nat) (Q:Exit→Act→World→Prop):List It→Exit→Act→World→Prop
  | []=>Q
  | .code c::k=>Exit.then (c.wpIn (fen rd) 0 P (zC P rd Q k)) (zC P rd Q k)
  | .blk id::k=>Exit.inBlock id (zC P rd Q k)
  | .ops all l::k=>Exit.then (wpListIn (fen rd) 0 P all (zC P rd Q k) l) (zC P rd Q k)
  | .goal J::k=>Exit.then J (zC P rd Q k)
def W (P:Program) (rd:Option Nat) (w0:World) (Q:Exit→Act→World→Prop) (n:Nat) (ds:List Deferred) (k:List It) (env:Env) (H:qg):Prop :=
  ∀ a w,qL n env a→a.defers=ds→Sat w0 H w→zC P rd Q k .normal a w
def qt (P:Program) (w0:World) (f:FuncId) (args:Array Value) (H:qg) (R:Value→qg→Prop):Prop :=
  ∀ w,Sat w0 H w→CallsIn Fence.wide 0 P f args w fun e w'=>∃ v H',e=.returned v∧R v H'∧Sat w0 H' w'
theorem qt.mono {P:Program} {w0:World} {f:FuncId} {args:Array Value} {H:qg} {R R':Value→qg→Prop} (h:qt P w0 f args H R) (hr:∀ v H',R v H'→R' v H'):qt P w0 f args H R' :=
  fun w hs=>(h w hs).mono fun _ _ ⟨v,H',e,r,s⟩=>⟨v,H',e,hr _ _ r,s⟩
def qaU (w0:World) (R:Value→qg→Prop):Ending→World→Prop:=fun e w'=>∃ v H',e=.returned v∧R v H'∧Sat w0 H' w'
def YA (P:Program) (w0:World) (fn:Func) (R:Value→qg→Prop):Exit→Act→World→Prop:=bodyPostM Fence.wide 0 P fn (qaU w0 R)
section rules
variable {P:Program} {rd:Option Nat} {w0:World} {Q:Exit→Act→World→Prop} {n:Nat} {ds:List Deferred} {k:List It} {env env':Env} {H H':qg}
theorem qcs {x y:Code} (h:W P rd w0 Q n ds (.code x::.code y::k) env H):W P rd w0 Q n ds (.code (.seq x y)::k) env H :=
  fun a w ha hd hs=>wpIn_seq (h a w ha hd hs)
theorem qgV {id:Nat} {c:Code} (h:W P rd w0 Q n ds (.code c::.blk id::k) env H):W P rd w0 Q n ds (.code (.block id c)::k) env H :=
  fun a w ha hd hs=>wpIn_block (h a w ha hd hs)
theorem qfd (h:W P rd w0 Q n ds k env H):W P rd w0 Q n ds (.code .skip::k) env H :=
  fun a w ha hd hs=>wpIn_skip (h a w ha hd hs)
theorem W_blk {id:Nat} (h:W P rd w0 Q n ds k env H):W P rd w0 Q n ds (.blk id::k) env H:=h
theorem qbM {c:Operand} {x y:Code} {t:Bool} (hc:opv env c=some (.bool t)) (ht:t=true→W P rd w0 Q n ds (.code x::k) env H)
    (hf:t=false→W P rd w0 Q n ds (.code y::k) env H):W P rd w0 Q n ds (.code (.cond c x y)::k) env H :=
  fun a w ha hd hs=>wpIn_cond_split (ha.opv hc) (fun e=>ht e a w ha hd hs) (fun e=>hf e a w ha hd hs)
theorem X9 {id:Nat} {l:List Oper} (h:W P rd w0 Q n ds (.ops l.toArray l::k) env H):W P rd w0 Q n ds (.code (.region id l.toArray false)::k) env H :=
  fun a w ha hd hs=>wpIn_region_lit (h a w ha hd hs)
theorem qA {all:Array Oper} (h:W P rd w0 Q n ds k env H):W P rd w0 Q n ds (.ops all []::k) env H:=h
theorem YP {J:Act→World→Prop} (h:∀ a w,qL n env a→a.defers=ds→Sat w0 H w→J a w):W P rd w0 Q n ds (.goal J::k) env H:=h
def KE (id:Nat):List It→Option (List It)
  | []=>none
  | .blk i::k=>if i=id then some k else KE id k
  | _::k=>KE id k
theorem Zs {id:Nat}:∀ {k k':List It},KE id k=some k'→∀ a w,zC P rd Q k' .normal a w→zC P rd Q k (.exit id) a w
  | .blk i::k,k',h,a,w,hq=>by
    simp only [KE] at h
    by_cases hi:i=id
    · rw [if_pos hi] at h; cases h; simp [zC,Exit.inBlock,hi,hq]
    · rw [if_neg hi] at h
      have:¬ id=i:=fun e=>hi e.symm
      simp [zC,Exit.inBlock,this,Zs h a w hq]
  | .code c::k,k',h,a,w,hq=>Zs (k:=k) h a w hq
  | .ops _ _::k,k',h,a,w,hq=>Zs (k:=k) h a w hq
  | .goal _::k,k',h,a,w,hq=>Zs (k:=k) h a w hq
theorem qbL {id:Nat} {k':List It} (he:KE id k=some k') (h:W P rd w0 Q n ds k' env H):W P rd w0 Q n ds (.code (.exit id)::k) env H :=
  fun a w ha hd hs=>wpIn_exit (Zs he a w (h a w ha hd hs))
theorem Jd:∀ {k:List It} (a:Act) (w:World),Q .ret a w→zC P rd Q k .ret a w
  | [],_,_,h=>h
  | .blk _::k,a,w,h=>Jd (k:=k) a w h
  | .code _::k,a,w,h=>Jd (k:=k) a w h
  | .ops _ _::k,a,w,h=>Jd (k:=k) a w h
  | .goal _::k,a,w,h=>Jd (k:=k) a w h
theorem KG (h:∀ a w,qL n env a→a.defers=ds→Sat w0 H w→Q .ret a w):W P rd w0 Q n ds (.code .ret::k) env H :=
  fun a w ha hd hs=>wpIn_ret (Jd a w (h a w ha hd hs))
end rules
end Go.Sl
namespace Go.Sl
open Go.RowKit
structure Ty (P:Program) (t:TypeId) (d:TypeDesc) (s:Nat) (z:Value) (bytes:Nat):Prop where
  und:P.underlying t=some d
  info:∃ i,P.info? t=some i∧i.size=s∧i.zero=some z∧i.bytes=bytes
def ZS:TypeDesc→Bool
  | .struct _ | .array _ _=>false
  | _=>true
section
variable {P:Program} {t:TypeId} {d:TypeDesc} {s:Nat} {z:Value} {by_:Nat}
theorem Ty.run (h:Ty P t d s z by_) (w:World):(underlying t).run P w=.ok d w:=run_underlying h.und w
theorem Ty.size (h:Ty P t d s z by_) (w:World):(sizeOf t).run P w=.ok s w:=by
  obtain ⟨i,h1,h2,_⟩:=h.info; simp [sizeOf,typeInfo,h1,Result.andThen,h2]
theorem Ty.zero (h:Ty P t d s z by_) (w:World):(zeroValue t).run P w=.ok z w:=by
  obtain ⟨i,h1,_,h3,_⟩:=h.info; simp [zeroValue,typeInfo,h1,Result.andThen,h3]
theorem Ty.isAgg (h:Ty P t d s z by_) (w:World):(isAgg t).run P w=.ok (!ZS d) w:=by
  have:=h.run w
  cases d <;> simp [Go.isAgg,this,Result.andThen,ZS]
end
section core
variable {P:Program} {rd:Option Nat} {w0:World} {Q:Exit→Act→World→Prop} {n:Nat} {ds:List Deferred} {k:List It} {env env':Env} {H H':qg} {all:Array Oper} {rest:List Oper}
theorem Jy {o:Oper} (hg:o.guard=none) (hdef:∀ c,o.op≠.defer c) (hd:dok n o.dst=true)
    (h:∀ a w,qL n env a→Sat w0 H w→∃ v H' w',((execOp a.eval o).run P w=.ok (.value v) w'∨((execOp a.eval o).run P w=.ok .skip w'∧v=undef))∧Sat w0 H' w'∧W P rd w0 Q n ds (.ops all rest::k) (put o.dst v env) H') :
    W P rd w0 Q n ds (.ops all (o::rest)::k) env H:=by
  intro a w ha hds hs
  obtain ⟨v,H',w',hr,hs',hW⟩:=h a w ha hs
  show wpListIn (fen rd) 0 P all (zC P rd Q k) (o::rest) a w
  unfold wpListIn
  rw [if_pos (by simp [Region.wanted,hg])]
  refine ⟨fun _ _=>trivial,?_⟩
  rw [Oper.semAt_eq _ _ _ hdef]
  rcases hr with hr | ⟨hr,rfl⟩
  · rw [hr,Oper.uponIn_value]
    exact hW (a.put o.dst v) w' (ha.put hd) (by cases o.dst <;> exact hds) hs'
  · rw [hr,Oper.uponIn_skip]
    exact hW (a.put o.dst _) w' (ha.put hd) (by cases o.dst <;> exact hds) hs'
theorem q5 {o:Oper} {v:Value} (hg:o.guard=none) (hdef:∀ c,o.op≠.defer c) (hd:dok n o.dst=true)
    (hv:∀ a w,qL n env a→Sat w0 H w→(execOp a.eval o).run P w=.ok (.value v) w) (h:W P rd w0 Q n ds (.ops all rest::k) (put o.dst v env) H) :
    W P rd w0 Q n ds (.ops all (o::rest)::k) env H :=
  Jy hg hdef hd fun a w ha hs=>⟨v,H,w,.inl (hv a w ha hs),hs,h⟩
theorem qr {d:Option Nat} {op:Op} {t:TypeId} {pos:String} {aft:Array Edge} {j:Nat} {b:Bool} {dj:Nat}
    (hj:(all[j]?).bind (·.dst)=some dj) (ht:look env dj=some (.bool b))
    (h:W P rd w0 Q n ds (.ops all (⟨d,op,t,pos,aft,none⟩::rest)::k) env H):W P rd w0 Q n ds (.ops all (⟨d,op,t,pos,aft,some (j,b)⟩::rest)::k) env H:=by
  intro a w ha hds hs
  have h1:=h a w ha hds hs
  have hv:=ha.val _ _ ht
  have hy:yielded all a.tmps j=some b:=by
    unfold yielded
    rw [hj]
    simp only [Option.bind_some]
    have hlt:dj<a.tmps.size:=by
      rcases Nat.lt_or_ge dj a.tmps.size with h | h
      · exact h
      · rw [Array.getD_eq_getD_getElem?,Array.getElem?_eq_none h] at hv; simp [undef] at hv
    rw [Array.getD_eq_getD_getElem?,Array.getElem?_eq_getElem hlt] at hv
    rw [Array.getElem?_eq_getElem hlt]
    simp only [Option.getD_some] at hv
    rw [hv]
  show wpListIn (fen rd) 0 P all (zC P rd Q k) (_::rest) a w
  have h1':wpListIn (fen rd) 0 P all (zC P rd Q k) (⟨d,op,t,pos,aft,none⟩::rest) a w:=h1
  unfold wpListIn at h1' ⊢
  rw [if_pos (by simp [Region.wanted])] at h1'
  rw [if_pos (by simp [Region.wanted,hy])]
  exact h1'
theorem W_gno {d:Option Nat} {op:Op} {t:TypeId} {pos:String} {aft:Array Edge} {j:Nat} {b:Bool} {dj:Nat}
    (hj:(all[j]?).bind (·.dst)=some dj) (ht:look env dj=some (.bool (!b))) (hd:dok n d=true)
    (h:W P rd w0 Q n ds (.ops all rest::k) (put d undef env) H):W P rd w0 Q n ds (.ops all (⟨d,op,t,pos,aft,some (j,b)⟩::rest)::k) env H:=by
  intro a w ha hds hs
  have hv:=ha.val _ _ ht
  have hy:yielded all a.tmps j=some (!b):=by
    unfold yielded
    rw [hj]
    simp only [Option.bind_some]
    have hlt:dj<a.tmps.size:=by
      rcases Nat.lt_or_ge dj a.tmps.size with h | h
      · exact h
      · rw [Array.getD_eq_getD_getElem?,Array.getElem?_eq_none h] at hv; simp [undef] at hv
    rw [Array.getD_eq_getD_getElem?,Array.getElem?_eq_getElem hlt] at hv
    rw [Array.getElem?_eq_getElem hlt]
    simp only [Option.getD_some] at hv
    rw [hv]
  show wpListIn (fen rd) 0 P all (zC P rd Q k) (_::rest) a w
  unfold wpListIn
  rw [if_neg (by simp [Region.wanted,hy])]
  exact ⟨fun _ _=>trivial,h (a.put d undef) w (ha.put hd) (by cases d <;> exact hds) hs⟩
end core
section ops
variable {P:Program} {rd:Option Nat} {w0:World} {Q:Exit→Act→World→Prop} {n:Nat} {ds:List Deferred} {k:List It} {env env':Env} {H H':qg} {all:Array Oper} {rest:List Oper}
variable {d:Nat} {x y c:Operand} {t u:TypeId} {pos:String} {aft:Array Edge} {v:Value}
theorem qM (hx:opv env x=some v) (hd:Nat.blt d n=true) (h:W P rd w0 Q n ds (.ops all rest::k) ((d,v)::env) H) :
    W P rd w0 Q n ds (.ops all (⟨some d,.move x,t,pos,aft,none⟩::rest)::k) env H :=
  q5 rfl nofun hd (fun a w ha _=>by simp [execOp,ha.opv hx]) h
theorem qjW (hx:opv env x=some v) (hd:Nat.blt d n=true) (h:W P rd w0 Q n ds (.ops all rest::k) ((d,v)::env) H) :
    W P rd w0 Q n ds (.ops all (⟨some d,.assign x,t,pos,aft,none⟩::rest)::k) env H :=
  q5 rfl nofun hd (fun a w ha _=>by simp [execOp,ha.opv hx]) h
theorem qgQ (hc:opv env c=some (.bool true)) (hx:opv env x=some v) (hd:Nat.blt d n=true)
    (h:W P rd w0 Q n ds (.ops all rest::k) ((d,v)::env) H) :
    W P rd w0 Q n ds (.ops all (⟨some d,.pick c x y,t,pos,aft,none⟩::rest)::k) env H :=
  q5 rfl nofun hd (fun a w ha _=>by simp [execOp,ha.opv hc,asBool,ha.opv hx,Result.andThen]) h
theorem qgR (hc:opv env c=some (.bool false)) (hx:opv env y=some v) (hd:Nat.blt d n=true)
    (h:W P rd w0 Q n ds (.ops all rest::k) ((d,v)::env) H) :
    W P rd w0 Q n ds (.ops all (⟨some d,.pick c x y,t,pos,aft,none⟩::rest)::k) env H :=
  q5 rfl nofun hd (fun a w ha _=>by simp [execOp,ha.opv hc,asBool,ha.opv hx,Result.andThen]) h
section bin
variable {q q':IntKind} {i j:Int} {r:Value} {ty:TypeId}
theorem qC {op:BinOp} (hx:opv env x=some (.int q i)) (hy:opv env y=some (.int q' j)) (hop:∀ P w,(Go.binOp op t (.int q i) (.int q' j)).run P w=.ok r w) (hd:Nat.blt d n=true)
    (h:W P rd w0 Q n ds (.ops all rest::k) ((d,r)::env) H):W P rd w0 Q n ds (.ops all (⟨some d,.binOp op t x y u,ty,pos,aft,none⟩::rest)::k) env H :=
  q5 rfl nofun hd (fun a w ha _=>by
    have he:(eqGuard op t x y (.int q i) (.int q' j)).run P w=.ok () w:=by
      unfold eqGuard; cases op <;> simp
    simp [execOp,ha.opv hx,ha.opv hy,he,hop,Result.andThen]) h
theorem qX {m:Int} (h:q.wrap (i+j)=m) (P:Program) (w:World):(Go.binOp .add t (.int q i) (.int q j)).run P w=.ok (.int q m) w:=by simp [Go.binOp,Op.intArith,h]
theorem Jx {m:Int} (h:q.wrap (i-j)=m) (P:Program) (w:World):(Go.binOp .sub t (.int q i) (.int q j)).run P w=.ok (.int q m) w:=by simp [Go.binOp,Op.intArith,h]
theorem qhk {m:Int} (h:q.wrap (i*j)=m) (P:Program) (w:World):(Go.binOp .mul t (.int q i) (.int q j)).run P w=.ok (.int q m) w:=by simp [Go.binOp,Op.intArith,h]
theorem b_quo {m:Int} (h0:j≠0) (h:q.wrap (i.tdiv j)=m) (P:Program) (w:World):(Go.binOp .quo t (.int q i) (.int q j)).run P w=.ok (.int q m) w:=by simp [Go.binOp,Op.intDiv,h,h0]
theorem qeZ {m:Int} (h0:j≠0) (h:i.tmod j=m) (P:Program) (w:World):(Go.binOp .rem t (.int q i) (.int q j)).run P w=.ok (.int q m) w:=by simp [Go.binOp,Op.intDiv,h,h0]
def bitsOf (op:BinOp) (q:IntKind) (i j:Int):Int :=
  let a:=BitVec.ofInt q.bits i
  let b:=BitVec.ofInt q.bits j
  q.wrap (match op with
    | .and=>a &&& b
    | .or=>a ||| b
    | .xor=>a ^^^ b
    | _=>a &&& ~~~b).toNat
theorem qe3 {m:Int} (h:bitsOf .and q i j=m) (P:Program) (w:World):(Go.binOp .and t (.int q i) (.int q j)).run P w=.ok (.int q m) w:=by
  subst h; simp [Go.binOp,Op.intBits,bitsOf]
theorem qbE {m:Int} (h:bitsOf .or q i j=m) (P:Program) (w:World):(Go.binOp .or t (.int q i) (.int q j)).run P w=.ok (.int q m) w:=by
  subst h; simp [Go.binOp,Op.intBits,bitsOf]
theorem b_xor {m:Int} (h:bitsOf .xor q i j=m) (P:Program) (w:World):(Go.binOp .xor t (.int q i) (.int q j)).run P w=.ok (.int q m) w:=by
  subst h; simp [Go.binOp,Op.intBits,bitsOf]
theorem qe2 {m:Int} (h:bitsOf .andNot q i j=m) (P:Program) (w:World):(Go.binOp .andNot t (.int q i) (.int q j)).run P w=.ok (.int q m) w:=by
  subst h; simp [Go.binOp,Op.intBits,bitsOf]
theorem X6 {m:Int} (h0:0≤j) (h:q.wrap (i*2 ^ (min j.toNat q.bits))=m) (P:Program) (w:World):(Go.binOp .shl t (.int q i) (.int q' j)).run P w=.ok (.int q m) w:=by
  have:¬ j<0:=by omega
  simp [Go.binOp,Op.shift,h,this]
theorem qeY {m:Int} (h0:0≤j) (h:i.fdiv (2 ^ (min j.toNat q.bits))=m) (P:Program) (w:World):(Go.binOp .shr t (.int q i) (.int q' j)).run P w=.ok (.int q m) w:=by
  have:¬ j<0:=by omega
  simp [Go.binOp,Op.shift,h,this]
theorem qhn (P:Program) (w:World):(Go.binOp .eql t (.int q i) (.int q j)).run P w=.ok (.bool (decide (i=j))) w:=by simp [Go.binOp,Op.intCmp]; rfl
theorem qhj (P:Program) (w:World):(Go.binOp .neq t (.int q i) (.int q j)).run P w=.ok (.bool (decide (i≠j))) w:=by
  simp [Go.binOp,Op.intCmp,bne]; rfl
theorem qhl (P:Program) (w:World):(Go.binOp .lss t (.int q i) (.int q j)).run P w=.ok (.bool (decide (i<j))) w:=by simp [Go.binOp,Op.intCmp]
theorem qe0 (P:Program) (w:World):(Go.binOp .leq t (.int q i) (.int q j)).run P w=.ok (.bool (decide (i≤j))) w:=by simp [Go.binOp,Op.intCmp]
theorem qe1 (P:Program) (w:World):(Go.binOp .gtr t (.int q i) (.int q j)).run P w=.ok (.bool (decide (j<i))) w:=by simp [Go.binOp,Op.intCmp]
theorem qhm (P:Program) (w:World):(Go.binOp .geq t (.int q i) (.int q j)).run P w=.ok (.bool (decide (j≤i))) w:=by simp [Go.binOp,Op.intCmp]
theorem W_not {b:Bool} (hx:opv env x=some (.bool b)) (hd:Nat.blt d n=true)
    (h:W P rd w0 Q n ds (.ops all rest::k) ((d,.bool (!b))::env) H):W P rd w0 Q n ds (.ops all (⟨some d,.unOp .not t x,ty,pos,aft,none⟩::rest)::k) env H :=
  q5 rfl nofun hd (fun a w ha _=>by simp [execOp,ha.opv hx,Op.unary]) h
theorem QU {m:Int} {td:TypeDesc} {s1 s2 by1 by2:Nat} {z1 z2:Value} (hx:opv env x=some (.int q i)) (ht:Ty P t td s1 z1 by1) (hu:Ty P u (.int q') s2 z2 by2) (hm:q'.wrap i=m) (hd:Nat.blt d n=true)
    (h:W P rd w0 Q n ds (.ops all rest::k) ((d,.int q' m)::env) H):W P rd w0 Q n ds (.ops all (⟨some d,.convert t u x,ty,pos,aft,none⟩::rest)::k) env H :=
  q5 rfl nofun hd (fun a w ha _=>by simp [execOp,ha.opv hx,convert,ht.run,hu.run,Conv.intToInt,hm]) h
theorem qbZ {b c:Bool} {s1 by1:Nat} {z1:Value} (ht:Ty P t .bool s1 z1 by1) (w:World):(Op.equal t (.bool b) (.bool c)).run P w=.ok (b == c) w:=by
  have h1:∀ m,(Op.equalIn (m+1) t (.bool b) (.bool c)).run P w=.ok (b == c) w:=fun m=>by
    simp only [Op.equalIn,Sem.run_bind,ht.run,Result.andThen]; rfl
  exact h1 9999
theorem qcv {b c:Bool} {s1 by1:Nat} {z1:Value} (hx:opv env x=some (.bool b)) (hy:opv env y=some (.bool c)) (ht:Ty P t .bool s1 z1 by1) (hd:Nat.blt d n=true)
    (h:W P rd w0 Q n ds (.ops all rest::k) ((d,.bool (!(b == c)))::env) H):W P rd w0 Q n ds (.ops all (⟨some d,.binOp .neq t x y u,ty,pos,aft,none⟩::rest)::k) env H :=
  q5 rfl nofun hd (fun a w ha _=>by
    have he:(eqGuard .neq t x y (.bool b) (.bool c)).run P w=.ok () w:=by simp [eqGuard]
    simp [execOp,ha.opv hx,ha.opv hy,he,Go.binOp,qbZ ht,Result.andThen]) h
end bin
theorem qii {vs:Array Value} {i:Nat} {ty:TypeId} (hx:opv env x=some (.tuple vs)) (hv:vs[i]?=some v) (hd:Nat.blt d n=true)
    (h:W P rd w0 Q n ds (.ops all rest::k) ((d,v)::env) H):W P rd w0 Q n ds (.ops all (⟨some d,.extract x i,ty,pos,aft,none⟩::rest)::k) env H :=
  q5 rfl nofun hd (fun a w ha _=>by simp [execOp,ha.opv hx,Instr.extract,hv]) h
structure Fld (P:Program) (s:TypeId) (f off size:Nat) (agg:Bool):Prop where
  is:∃ fs fd,P.underlying s=some (.struct fs)∧fs[f]?=some fd∧fd.offset=off∧∃ d z b,Ty P fd.type d size z b∧ZS d=!agg
inductive Zk (env:Env):List Operand→List Value→Prop
  | nil:Zk env [] []
  | cons {x:Operand} {v:Value} {l:List Operand} {vs:List Value} (h:opv env x=some v) (hs:Zk env l vs):Zk env (x::l) (v::vs)
theorem qL.opvs {a:Act} (ha:qL n env a) {l:List Operand} {vs:List Value} (h:Zk env l vs):l.map a.eval=vs:=by
  induction h with
  | nil=>rfl
  | cons h _ ih=>simp [ha.opv h,ih]
theorem Qh {fn:Fn} {fl cl:List Operand} {fv cv:List Value} {ty:TypeId} (hf:Zk env fl fv) (hc:Zk env cl cv) (hd:Nat.blt d n=true)
    (h:W P rd w0 Q n ds (.ops all rest::k) ((d,.func fn fv.toArray cv.toArray)::env) H):W P rd w0 Q n ds (.ops all (⟨some d,.makeFunc fn fl.toArray cl.toArray,ty,pos,aft,none⟩::rest)::k) env H :=
  q5 rfl nofun hd (fun a w ha _=>by simp [execOp,Instr.makeFunc,ha.opvs hf,ha.opvs hc]) h
def qh (w0:World) (H:qg) (b i:Nat) (v:Value):Prop:=∀ w,Sat w0 H w→w.cell? ⟨b,i,none⟩=some v
theorem qh.own {b i e tot:Nat} {l:List Value} (hm:(b,Blk.cells e tot l)∈H) (hv:l[i]?=some v):qh w0 H b i v:=fun _ hs=>hs.cell hm hv
theorem qh.old {b i:Nat} (hv:w0.cell? ⟨b,i,none⟩=some v):qh w0 H b i v:=fun _ hs=>hs.old hv
def zP (w0:World) (H:qg) (b i:Nat) (vs:List Value):Prop:=∀ (j:Nat) v,vs[j]?=some v→qh w0 H b (i+j) v
theorem zP.nil {b i:Nat}:zP w0 H b i []:=fun j v h=>by simp at h
theorem zP.cons {b i:Nat} {vs:List Value} (h:qh w0 H b i v) (hs:zP w0 H b (i+1) vs):zP w0 H b i (v::vs):=fun j u hu=>by
  cases j with
  | zero=>simp at hu; subst hu; exact h
  | succ j=>have:=hs j u (by simpa using hu); rwa [show i+1+j=i+(j+1) by omega] at this
theorem zP.own {b i e tot:Nat} {l vs:List Value} (hm:(b,Blk.cells e tot l)∈H) (hv:(l.drop i).take vs.length=vs):zP w0 H b i vs:=fun j v h=>by
  refine qh.own hm ?_
  have hl:j<vs.length:=(List.getElem?_eq_some_iff.1 h).1
  rw [← hv,List.getElem?_take_of_lt hl,List.getElem?_drop] at h
  exact h
theorem qx (b i j:Nat):(⟨b,i,none⟩:Addr).add j=⟨b,i+j,none⟩:=by
  unfold Addr.add; split
  · rename_i h; subst h; rfl
  · rfl
theorem qe {b i s by_:Nat} {td:TypeDesc} {z:Value} {ty:TypeId} (hx:opv env x=some (.pointer (some ⟨b,i,none⟩))) (ht:Ty P t td s z by_) (hf:ZS td=true) (hc:qh w0 H b i v) (hd:Nat.blt d n=true)
    (h:W P rd w0 Q n ds (.ops all rest::k) ((d,v)::env) H):W P rd w0 Q n ds (.ops all (⟨some d,.load t x,ty,pos,aft,none⟩::rest)::k) env H :=
  q5 rfl nofun hd (fun a w ha hs=>by
    simp [execOp,ha.opv hx,Instr.loadAt,Instr.sureAddr,loadVar,ht.isAgg,hf,hc w hs,Result.andThen]) h
theorem QJ {b i s by_:Nat} {td:TypeDesc} {z:Value} {vs:List Value} {ty:TypeId} (hx:opv env x=some (.pointer (some ⟨b,i,none⟩))) (ht:Ty P t td s z by_) (hf:ZS td=false) (hl:vs.length=s) (hc:zP w0 H b i vs) (hd:Nat.blt d n=true)
    (h:W P rd w0 Q n ds (.ops all rest::k) ((d,.agg vs.toArray)::env) H):W P rd w0 Q n ds (.ops all (⟨some d,.load t x,ty,pos,aft,none⟩::rest)::k) env H :=
  q5 rfl nofun hd (fun a w ha hs=>by
    have hcs:=run_loadCells_list (P:=P) (w:=w) ⟨b,i,none⟩ vs (fun j u hu=>by rw [qx]; exact hc j u hu w hs)
    rw [hl] at hcs
    simp [execOp,ha.opv hx,Instr.loadAt,Instr.sureAddr,loadVar,ht.isAgg,ht.size,hf,hcs,Result.andThen]) h
theorem qhr {b i f off s:Nat} {ag:Bool} {ty:TypeId} (hx:opv env x=some (.pointer (some ⟨b,i,none⟩))) (hf:Fld P t f off s ag) (h0:s≠0) (hd:Nat.blt d n=true)
    (h:W P rd w0 Q n ds (.ops all rest::k) ((d,.pointer (some ⟨b,i+off,none⟩))::env) H):W P rd w0 Q n ds (.ops all (⟨some d,.fieldAddr t x f,ty,pos,aft,none⟩::rest)::k) env H :=
  q5 rfl nofun hd (fun a w ha _=>by
    obtain ⟨fs,fd,h1,h2,rfl,td,z,b',hT,hfl⟩:=hf.is
    simp [execOp,ha.opv hx,Instr.fieldAt,run_underlying h1,h2,Instr.sureAddr,fieldPlace,hT.size,h0,Result.andThen,qx]) h
theorem qbK {a:Addr} {ty:TypeId} (hx:opv env x=some (.pointer (some a))) (hd:Nat.blt d n=true)
    (h:W P rd w0 Q n ds (.ops all rest::k) ((d,.pointer (some a))::env) H):W P rd w0 Q n ds (.ops all (⟨some d,.nilCheck x,ty,pos,aft,none⟩::rest)::k) env H :=
  q5 rfl nofun hd (fun a w ha _=>by simp [execOp,ha.opv hx]) h
theorem qS {l:List Value} {ty:TypeId} (hx:opv env x=some v) (hl:v.cells.toList=l) (hd:Nat.blt d n=true)
    (h:∀ b:Nat,W P rd w0 Q n ds (.ops all rest::k) ((d,.pointer (some ⟨b,0,none⟩))::env) ((b,.cells t l.length l)::H)):W P rd w0 Q n ds (.ops all (⟨some d,.box t x,ty,pos,aft,none⟩::rest)::k) env H :=
  Jy rfl nofun hd fun a w ha hs=>⟨.pointer (some ⟨w.heap.size,0,none⟩),_,w.alloc (.cells v.cells t),.inl (by
    simp [execOp,ha.opv hx,Instr.box,newVar,newRow,Result.andThen]),hs.alloc _ (At.alloc_cells w v.cells t),by
    have:=h w.heap.size
    rw [← hl] at this
    simpa [put] using this⟩
theorem qH {l:List Value} {td:TypeDesc} {s by_:Nat} {z:Value} {ty:TypeId} (ht:Ty P t td s z by_) (hl:z.cells.toList=l) (hd:Nat.blt d n=true)
    (h:∀ b:Nat,W P rd w0 Q n ds (.ops all rest::k) ((d,.pointer (some ⟨b,0,none⟩))::env) ((b,.cells t l.length l)::H)):W P rd w0 Q n ds (.ops all (⟨some d,.alloc t,ty,pos,aft,none⟩::rest)::k) env H :=
  Jy rfl nofun hd fun a w ha hs=>⟨.pointer (some ⟨w.heap.size,0,none⟩),_,w.alloc (.cells z.cells t),.inl (by
    simp [execOp,Instr.alloc,ht.zero,newVar,newRow,Result.andThen]),hs.alloc _ (At.alloc_cells w z.cells t),by
    have:=h w.heap.size
    rw [← hl] at this
    simpa [put] using this⟩
theorem At.set {w:World} {b i:Nat} {e tot:Nat} {l:List Value} {v:Value} (h:At w b (.cells e tot l)):At (w.setCell ⟨b,i,none⟩ v) b (.cells e tot (l.set i v)):=by
  obtain ⟨c,h1,h2,h3⟩:=h
  refine ⟨c.setIfInBounds i v,?_,by simpa using h2,?_⟩
  · simp [World.setCell,Array.getElem?_modify,h1]
  · simp only [Array.toList_setIfInBounds,List.length_set]
    rw [List.take_set,h3]
theorem qdi {w0 w:World} {b i:Nat} {v:Value} (hb:w0.heap.size≤b):Below w0.heap.size w (w.setCell ⟨b,i,none⟩ v):=(Below.refl _ _).setCell hb v
theorem q7 {b i e tot s by_:Nat} {td:TypeDesc} {z:Value} {l l':List Value} {ty:TypeId} (hx:opv env x=some (.pointer (some ⟨b,i,none⟩))) (hy:opv env y=some v) (ht:Ty P t td s z by_) (h1:v.oneCell'=true) (hs1:s=1)
    (hm:(b,Blk.cells e tot l)∈H) (hi:Nat.blt i l.length=true) (hl:l.set i v=l') (hu:Upd b (.cells e tot l) (.cells e tot l') H H')
    (h:W P rd w0 Q n ds (.ops all rest::k) env H'):W P rd w0 Q n ds (.ops all (⟨none,.store t x y,ty,pos,aft,none⟩::rest)::k) env H :=
  Jy rfl nofun rfl fun a w ha hs=>by
    subst hl hs1
    have hi':i<l.length:=by simpa [Nat.blt_eq] using hi
    obtain ⟨u,hu'⟩:∃ u,l[i]?=some u:=⟨_,List.getElem?_eq_getElem hi'⟩
    have hc:=hs.cell hm hu'
    have hf:=hs.frozen (i:=i) hm
    have hsz:v.cells=#[v]:=by cases v <;> first | rfl | simp [Value.oneCell'] at h1
    refine ⟨undef,H',w.setCell ⟨b,i,none⟩ v,.inr ⟨?_,rfl⟩,hs.upd hu (qdi (hs.own _ hm).1) (fun j hj _=>Below.heap_setCell _ _ _ _ hj) (hs.own _ hm).2.set,h⟩
    simp [execOp,ha.opv hx,ha.opv hy,Instr.storeAt,Instr.sureAddr,storeVar,ht.size,hsz,storeCells,qx,run_store _ _ _ _ _ h1,hc,hf,Result.andThen]
end ops
end Go.Sl
namespace Go.Sl
open Go.RowKit
def Yo (i:Nat):List Value→Env
  | []=>[]
  | v::l=>(i,v)::Yo (i+1) l
theorem J9:∀ (l:List Value) (i x:Nat) (v:Value),look (Yo i l) x=some v→i≤x∧l[x-i]?=some v
  | [],_,_,_,h=>by simp [Yo,look] at h
  | u::l,i,x,v,h=>by
    simp only [Yo,look] at h
    by_cases hx:i=x
    · subst hx
      have:Nat.beq i i=true:=by simp
      rw [this] at h
      simpa using h
    · rw [zz hx] at h
      obtain ⟨h1,h2⟩:=J9 l (i+1) x v (by simpa using h)
      refine ⟨by omega,?_⟩
      rw [show x-i=(x-(i+1))+1 by omega]
      simpa using h2
section
variable {P:Program} {w0:World} {f:FuncId} {fn:Func} {c:Code} {H:qg} {R:Value→qg→Prop} {n:Nat}
theorem qi {l:List Value} {env:Env} (hf:P.funcs[f]?=some fn) (hb:fn.body=some c) (hn:fn.ntmps=n) (hl:Nat.ble l.length n=true) (he:Yo 0 l=env)
    (h:W P none w0 (YA P w0 fn R) n [] [.code c] env H):qt P w0 f l.toArray H R:=by
  intro w hs
  refine callsIn_of_wp_marks hf hb trivial ?_
  have hl':l.length≤n:=by simpa using hl
  refine h _ w ⟨by simp [hn]; omega,fun x v hx=>?_⟩ rfl hs
  subst he
  obtain ⟨_,h2⟩:=J9 l 0 x v hx
  have h3:x<l.length:=(List.getElem?_eq_some_iff.1 h2).1
  simp only [Array.getD_eq_getD_getElem?]
  rw [Array.getElem?_append_left (by simpa using h3)]
  simpa using congrArg (Option.getD · undef) h2
end
section
variable {P:Program} {w0:World} {fn:Func} {R:Value→qg→Prop} {n:Nat} {k:List It} {env:Env} {H H':qg}
theorem qdK {t:Nat} {tmps:Array Value} {w:World} (hr:fn.results=#[.tmp t]):(results fn tmps).run P w=.ok (tmps.getD t undef) w:=results_tmp hr tmps P w
theorem qdJ {t u:Nat} {tmps:Array Value} {w:World} (hr:fn.results=#[.tmp t,.tmp u]):(results fn tmps).run P w=.ok (.tuple #[tmps.getD t undef,tmps.getD u undef]) w:=results_tmp2 hr tmps P w
theorem qdI {t u s:Nat} {tmps:Array Value} {w:World} (hr:fn.results=#[.tmp t,.tmp u,.tmp s]):(results fn tmps).run P w=.ok (.tuple #[tmps.getD t undef,tmps.getD u undef,tmps.getD s undef]) w:=by
  simp [results,hr]
theorem qah {tmps:Array Value} {w:World} (hr:fn.results=#[]):(results fn tmps).run P w=.ok (.tuple #[]) w:=results_none hr tmps P w
end
section
variable {P:Program} {rd:Option Nat} {w0:World} {Q:Exit→Act→World→Prop} {n:Nat} {ds:List Deferred} {k:List It} {env env':Env} {H H':qg} {all:Array Oper} {rest:List Oper}
variable {d:Option Nat} {x y c:Operand} {t u:TypeId} {pos:String} {aft:Array Edge} {v:Value} {tys:Array TypeId}
theorem qcu {o:Oper} {f:FuncId} {args:Array Value} {R:Value→qg→Prop} (hg:o.guard=none) (hdef:∀ c,o.op≠.defer c) (hd:dok n o.dst=true)
    (hr:∀ a w,qL n env a→Sat w0 H w→(execOp a.eval o).run P w=.ok (.enter f args) w) (hL:qt P w0 f args H R)
    (h:∀ v H',R v H'→W P rd w0 Q n ds (.ops all rest::k) (put o.dst v env) H'):W P rd w0 Q n ds (.ops all (o::rest)::k) env H:=by
  intro a w ha hds hs
  show wpListIn (fen rd) 0 P all (zC P rd Q k) (o::rest) a w
  unfold wpListIn
  rw [if_pos (by simp [Region.wanted,hg])]
  refine ⟨fun _ _=>trivial,?_⟩
  rw [Oper.semAt_eq _ _ _ hdef,hr a w ha hs,Oper.uponIn_enter]
  refine ⟨fun h=>by simp [Fence.wide] at h,?_⟩
  have hc:CallsIn (fen rd) 0 P f args w _:=hL w hs
  refine hc.mono ?_
  rintro e w' ⟨v,H',rfl,hR,hs'⟩
  exact h v H' hR (a.put o.dst v) w' (ha.put hd) (by cases o.dst <;> exact hds) hs'
theorem qu {f:FuncId} {l:List Operand} {vs:List Value} {R:Value→qg→Prop} (hc:Zk env l vs) (hf:∀ (args:Array Value) (w:World),(callFunc f args).run P w=.ok (.enter f args) w) (hd:dok n d=true)
    (hL:qt P w0 f vs.toArray H R) (h:∀ v H',R v H'→W P rd w0 Q n ds (.ops all rest::k) (put d v env) H') :
    W P rd w0 Q n ds (.ops all (⟨d,.call ⟨.value (.func f),l.toArray,tys⟩,t,pos,aft,none⟩::rest)::k) env H :=
  qcu rfl nofun hd (fun a w ha _=>by
    have:l.map a.eval=vs:=ha.opvs hc
    simp [execOp,resolve,Act.eval,Deferred.ofValue,invoke,this,hf,Result.andThen]) hL h
def Qc (P:Program) (T:World→Prop) (f:FuncId) (args:List Value) (v:Value):Prop:=∀ w0 H,T w0→qt P w0 f args.toArray H (fun v' H'=>v'=v∧H'=H)
theorem qB {f:FuncId} {l:List Operand} {vs:List Value} (hc:Zk env l vs) (hf:∀ (args:Array Value) (w:World),(callFunc f args).run P w=.ok (.enter f args) w) (hd:dok n d=true)
    {T:World→Prop} (hT:T w0) (hL:Qc P T f vs v) (h:W P rd w0 Q n ds (.ops all rest::k) (put d v env) H) :
    W P rd w0 Q n ds (.ops all (⟨d,.call ⟨.value (.func f),l.toArray,tys⟩,t,pos,aft,none⟩::rest)::k) env H :=
  qu hc hf hd (hL w0 H hT) (by rintro v' H' ⟨rfl,rfl⟩; exact h)
theorem qct {f:FuncId} {l:List Operand} {vs:List Value} {fa ca:Array Value} {R:Value→qg→Prop} (hx:opv env x=some (.func (.func f) fa ca)) (hc:Zk env l vs) (hf:∀ (args:Array Value) (w:World),(callFunc f args).run P w=.ok (.enter f args) w) (hd:dok n d=true)
    (hL:qt P w0 f (fa++vs.toArray++ca) H R) (h:∀ v H',R v H'→W P rd w0 Q n ds (.ops all rest::k) (put d v env) H') :
    W P rd w0 Q n ds (.ops all (⟨d,.call ⟨.value x,l.toArray,tys⟩,t,pos,aft,none⟩::rest)::k) env H :=
  qcu rfl nofun hd (fun a w ha _=>by
    have:l.map a.eval=vs:=ha.opvs hc
    simp [execOp,resolve,ha.opv hx,Deferred.ofValue,invoke,this,hf,Result.andThen]) hL h
end
theorem qbQ {P:Program} {w0:World} {H:qg} {f:FuncId} {args:Array Value} {T:World→Prop} {C:Array Value} {e:TypeId} {g:Addr→Value}
    (h:∀ w,T w→Calls P f args w fun en w'=>en=.returned (g ⟨w.heap.size,0,none⟩)∧w'=w.alloc (.cells C e)) (hT:∀ w,Sat w0 H w→T w) :
    qt P w0 f args H (fun v H'=>∃ b,v=g ⟨b,0,none⟩∧H'=(b,.cells e C.size C.toList)::H):=fun w hs=>by
  refine (callsIn_wide.2 (h w (hT w hs))).mono ?_
  rintro en w' ⟨rfl,rfl⟩
  exact ⟨_,_,rfl,⟨_,rfl,rfl⟩,hs.alloc _ (At.alloc_cells w C e)⟩
section
variable {P:Program} {rd:Option Nat} {w0:World} {Q:Exit→Act→World→Prop} {n:Nat} {ds:List Deferred} {k:List It} {env env':Env} {H H':qg} {all:Array Oper} {rest:List Oper}
variable {d:Nat} {x y c:Operand} {t u ty:TypeId} {pos:String} {aft:Array Edge} {v:Value} {tys:Array TypeId}
theorem zb {ad:Option Addr} {len cap s by_:Nat} {e:TypeId} {z:Value} {m:Int} (hx:opv env x=some (.slice ad len cap)) (ht:Ty P t (.slice e) s z by_) (hm:(len:Int)=m) (hd:Nat.blt d n=true)
    (h:W P rd w0 Q n ds (.ops all rest::k) ((d,.int .i64 m)::env) H):W P rd w0 Q n ds (.ops all (⟨some d,.call ⟨.builtin .len,#[x],#[t]⟩,ty,pos,aft,none⟩::rest)::k) env H :=
  q5 rfl nofun hd (fun a w ha _=>by simp [execOp,resolve,invoke,builtin,Builtin.len_,ha.opv hx,ht.run,goInt,Result.andThen,hm]) h
theorem qfe {q q':IntKind} {i j m:Int} (hx:opv env x=some (.int q i)) (hy:opv env y=some (.int q' j)) (hm:(if j<i then j else i)=m) (hd:Nat.blt d n=true)
    (h:W P rd w0 Q n ds (.ops all rest::k) ((d,.int q m)::env) H):W P rd w0 Q n ds (.ops all (⟨some d,.call ⟨.builtin .min,#[x,y],tys⟩,ty,pos,aft,none⟩::rest)::k) env H :=
  q5 rfl nofun hd (fun a w ha _=>by simp [execOp,resolve,invoke,builtin,Builtin.min_,Builtin.min2,ha.opv hx,ha.opv hy,Result.andThen,← hm]) h
theorem qN {b o len cap j s es by_ eb:Nat} {q:IntKind} {i:Int} {e:TypeId} {z ez:Value} {ed:TypeDesc} (hx:opv env x=some (.slice (some ⟨b,o,none⟩) len cap)) (hy:opv env y=some (.int q i)) (ht:Ty P t (.slice e) s z by_) (he:Ty P e ed es ez eb)
    (hi:i=(j:Int)) (hj:j<len) {at_:Nat} (hat:o+j*es=at_) (hd:Nat.blt d n=true)
    (h:W P rd w0 Q n ds (.ops all rest::k) ((d,.pointer (some ⟨b,at_,none⟩))::env) H):W P rd w0 Q n ds (.ops all (⟨some d,.indexAddr t x y,ty,pos,aft,none⟩::rest)::k) env H :=
  q5 rfl nofun hd (fun a w ha _=>by
    subst hi hat
    simp [execOp,Instr.indexAt,ha.opv hx,ha.opv hy,asIntOf,ht.run,he.size,hj,qx,Result.andThen]) h
theorem zn {b o len j s es by_ eb:Nat} {q:IntKind} {i:Int} {e:TypeId} {z ez:Value} {ed:TypeDesc} (hx:opv env x=some (.pointer (some ⟨b,o,none⟩))) (hy:opv env y=some (.int q i)) (ht:Ty P t (.array len e) s z by_) (he:Ty P e ed es ez eb)
    (hi:i=(j:Int)) (hj:j<len) {at_:Nat} (hat:o+j*es=at_) (hd:Nat.blt d n=true)
    (h:W P rd w0 Q n ds (.ops all rest::k) ((d,.pointer (some ⟨b,at_,none⟩))::env) H):W P rd w0 Q n ds (.ops all (⟨some d,.indexAddr t x y,ty,pos,aft,none⟩::rest)::k) env H :=
  q5 rfl nofun hd (fun a w ha _=>by
    subst hi hat
    simp [execOp,Instr.indexAt,ha.opv hx,ha.opv hy,asIntOf,ht.run,he.size,hj,qx,Instr.sureAddr,Result.andThen]) h
theorem Yt {cs:Array Value} {j s by_ len es eb:Nat} {q:IntKind} {i:Int} {e:TypeId} {z ez:Value} {ed:TypeDesc} (hx:opv env x=some (.agg cs)) (hy:opv env y=some (.int q i)) (ht:Ty P t (.array len e) s z by_) (he:Ty P e ed es ez eb) (hf:ZS ed=true) (hi:i=(j:Int)) (hj:j<len)
    (hr:cs[j*es]?=some v) (hd:Nat.blt d n=true)
    (h:W P rd w0 Q n ds (.ops all rest::k) ((d,v)::env) H):W P rd w0 Q n ds (.ops all (⟨some d,.index t x y,ty,pos,aft,none⟩::rest)::k) env H :=
  q5 rfl nofun hd (fun a w ha _=>by
    subst hi
    simp [execOp,Instr.index,ha.opv hx,ha.opv hy,asIntOf,ht.run,he.size,he.isAgg,hf,part,hr,hj,Result.andThen]) h
def Z6 (env:Env) (len:Nat):Option Operand→Nat→Prop
  | none,i=>i=len
  | some o,i=>∃ q:IntKind,opv env o=some (.int q (i:Int))
theorem ZM {ad:Option Addr} {len cap l hh s es by_ eb:Nat} {lo hi:Option Operand} {e:TypeId} {z ez:Value} {ed:TypeDesc} {a:Act} {w:World} (ha:qL n env a) (ht:Ty P t (.slice e) s z by_) (he:Ty P e ed es ez eb)
    (hlo:Z6 env 0 lo l) (hhi:Z6 env len hi hh) (h1:l≤hh) (h2:hh≤cap) :
    (Instr.sliceAt t (.slice ad len cap) (lo.map a.eval) (hi.map a.eval) none).run P w=.ok (.slice (if cap=l then ad else ad.map (·.add (l*es))) (hh-l) (cap-l)) w:=by
  have hb:(Instr.sliceBounds true len cap (lo.map a.eval) (hi.map a.eval) none).run P w=.ok (l,hh,cap) w:=by
    cases lo with
    | none =>
      have hl:l=0:=hlo
      subst hl
      cases hi with
      | none=>have:hh=len:=hhi; subst this; simp [Instr.sliceBounds,Result.andThen]
      | some o=>obtain ⟨q,hq⟩:=hhi; simp [Instr.sliceBounds,ha.opv hq,Instr.sliceBound,asIntOf,h2,Result.andThen]
    | some o' =>
      obtain ⟨q',hq'⟩:=hlo
      cases hi with
      | none=>have:hh=len:=hhi; subst this; simp [Instr.sliceBounds,ha.opv hq',Instr.sliceBound,asIntOf,h1,Result.andThen]
      | some o=>obtain ⟨q,hq⟩:=hhi; simp [Instr.sliceBounds,ha.opv hq,ha.opv hq',Instr.sliceBound,asIntOf,h1,h2,Result.andThen]
  simp [Instr.sliceAt,Instr.slice,ht.run,hb,he.size,Result.andThen]
theorem qaN {ad:Option Addr} {len cap hh s es by_ eb:Nat} {lo hi:Option Operand} {e:TypeId} {z ez:Value} {ed:TypeDesc} (hx:opv env x=some (.slice ad len cap)) (ht:Ty P t (.slice e) s z by_) (he:Ty P e ed es ez eb)
    (hlo:Z6 env 0 lo 0) (hhi:Z6 env len hi hh) (h2:hh≤cap) (hd:Nat.blt d n=true)
    (h:W P rd w0 Q n ds (.ops all rest::k) ((d,.slice ad hh cap)::env) H):W P rd w0 Q n ds (.ops all (⟨some d,.slice t x lo hi none,ty,pos,aft,none⟩::rest)::k) env H :=
  q5 rfl nofun hd (fun a w ha _=>by
    have:=ZM (P:=P) (w:=w) (ad:=ad) ha ht he hlo hhi (Nat.zero_le _) h2
    have ea:∀ x:Option Addr,(if cap=0 then x else x.map (·.add (0*es)))=x:=fun x=>by
      split
      · rfl
      · cases x <;> simp [Addr.add]
    rw [ea] at this
    simp only [Nat.sub_zero] at this
    simp [execOp,ha.opv hx,this,Result.andThen]) h
theorem qgM {b o len cap l hh s es by_ eb:Nat} {lo hi:Option Operand} {e:TypeId} {z ez:Value} {ed:TypeDesc} (hx:opv env x=some (.slice (some ⟨b,o,none⟩) len cap)) (ht:Ty P t (.slice e) s z by_) (he:Ty P e ed es ez eb)
    (hlo:Z6 env 0 lo l) (hhi:Z6 env len hi hh) (h1:l≤hh) (h2:hh≤cap) (hd:Nat.blt d n=true)
    (h:∀ o',(l<cap→o'=o+l*es)→W P rd w0 Q n ds (.ops all rest::k) ((d,.slice (some ⟨b,o',none⟩) (hh-l) (cap-l))::env) H):W P rd w0 Q n ds (.ops all (⟨some d,.slice t x lo hi none,ty,pos,aft,none⟩::rest)::k) env H:=by
  refine q5 (v:=.slice (some ⟨b,if cap=l then o else o+l*es,none⟩) (hh-l) (cap-l)) rfl nofun hd (fun a w ha _=>?_) (h _ (fun hlt=>by rw [if_neg (by omega)]))
  have:=ZM (P:=P) (w:=w) (ad:=some ⟨b,o,none⟩) ha ht he hlo hhi h1 h2
  have ea:(if cap=l then some (⟨b,o,none⟩:Addr) else (some (⟨b,o,none⟩:Addr)).map (·.add (l*es)))=some ⟨b,if cap=l then o else o+l*es,none⟩:=by
    split <;> simp [qx]
  rw [ea] at this
  simp [execOp,ha.opv hx,this,Result.andThen]
end
end Go.Sl
namespace Go.Sl
open Go.RowKit
def qed (dj:Nat) (o:Oper):Bool :=
  match o.op with
  | .pick (.tmp t) _ _=>Nat.beq t dj
  | _=>false
def Qy (dj:Nat):List Oper→Option (List Oper × Oper × List Oper)
  | []=>none
  | o::l=>bif qed dj o then some ([],o,l) else
    match Qy dj l with
    | some (g,p,r)=>some (o::g,p,r)
    | none=>none
theorem YW {dj:Nat}:∀ {l g:List Oper} {p:Oper} {r:List Oper},Qy dj l=some (g,p,r)→l=g++p::r
  | [],_,_,_,h=>by simp [Qy] at h
  | o::l,g,p,r,h=>by
    simp only [Qy] at h
    cases hp:qed dj o with
    | true=>rw [hp] at h; simp at h; obtain ⟨rfl,rfl,rfl⟩:=h; rfl
    | false =>
      rw [hp] at h
      simp only [cond_false] at h
      cases hs:Qy dj l with
      | none=>rw [hs] at h; cases h
      | some x =>
        obtain ⟨g',p',r'⟩:=x
        rw [hs] at h
        simp only [Option.some.injEq,Prod.mk.injEq] at h
        obtain ⟨rfl,rfl,rfl⟩:=h
        rw [YW hs]; rfl
def KC (all:Array Oper) (o:Oper):Option Nat :=
  match o.guard with
  | some jb=>(all[jb.1]?).bind (·.dst)
  | none=>none
def JY (all:Array Oper):List Nat→List Oper→Bool
  | _,[]=>true
  | dead,o::l =>
    match o.dst with
    | some d =>
      match KC all o with
      | some x=>dead.elem x && JY all (d::dead) l
      | none=>false
    | none=>false
def Qd (env:Env):List Oper→Bool
  | []=>true
  | o::l =>
    match o.dst with
    | some d=>(look env d).isNone && Qd env l
    | none=>Qd env l
section
variable {P:Program} {rd:Option Nat} {w0:World} {Q:Exit→Act→World→Prop} {n:Nat} {ds:List Deferred} {k:List It} {env env':Env} {H H':qg} {all:Array Oper} {rest:List Oper}
theorem Xu {all:Array Oper}:∀ (l:List Oper) (D D':List Nat),(∀ x,x∈D→x∈D')→JY all D l=true→JY all D' l=true
  | [],_,_,_,_=>rfl
  | o::l,D,D',hDD,h=>by
    simp only [JY] at h ⊢
    cases hd:o.dst with
    | none=>simp [hd] at h
    | some d =>
      cases hg:KC all o with
      | none=>simp [hd,hg] at h
      | some y =>
        simp only [hd,hg,Bool.and_eq_true,List.elem_eq_mem,decide_eq_true_eq] at h ⊢
        exact ⟨hDD _ h.1,Xu l _ _ (fun x hx=>by
          cases hx with
          | head=>exact List.mem_cons_self
          | tail _ hx=>exact List.mem_cons_of_mem _ (hDD x hx)) h.2⟩
theorem K1 {b0:Bool} {dj:Nat}:∀ (l l2:List Oper) (dead:List Nat) (a:Act) (w:World),
    JY all (dj::dead) l=true→Qd ((dj,.bool b0)::env) l=true→(∀ o∈l,∀ j b,o.guard=some (j,b)→KC all o=some dj→b=!b0) →
    qL n ((dj,.bool b0)::env) a→(∀ x∈dead,x≠dj→a.tmps.getD x undef=undef)→a.defers=ds →
    (∀ a',qL n ((dj,.bool b0)::env) a'→a'.defers=ds→wpListIn (fen rd) 0 P all (zC P rd Q k) l2 a' w)→wpListIn (fen rd) 0 P all (zC P rd Q k) (l++l2) a w
  | [],l2,dead,a,w,_,_,_,ha,_,hd,hK=>hK a ha hd
  | o::l,l2,dead,a,w,hsk,hfr,hg,ha,hdead,hd,hK=>by
    simp only [JY] at hsk
    cases hdo:o.dst with
    | none=>simp [hdo] at hsk
    | some d =>
      cases hgs:KC all o with
      | none=>simp [hdo,hgs] at hsk
      | some x =>
        simp only [hdo,hgs,Bool.and_eq_true,List.elem_eq_mem,decide_eq_true_eq] at hsk
        obtain ⟨hx,hsk⟩:=hsk
        simp only [Qd,hdo,Bool.and_eq_true,Option.isNone_iff_eq_none] at hfr
        obtain ⟨j,b,hgo,hdj⟩:∃ j b,o.guard=some (j,b)∧(all[j]?).bind (·.dst)=some x:=by
          unfold KC at hgs
          cases hgo:o.guard with
          | none=>simp [hgo] at hgs
          | some jb=>exact ⟨jb.1,jb.2,rfl,by simpa [hgo] using hgs⟩
        have hwant:¬ (Region.wanted o (yielded all a.tmps)=true):=by
          simp only [Region.wanted,hgo,yielded,hdj,Option.bind_some]
          by_cases hxd:x=dj
          · subst hxd
            have hv:=ha.val x (.bool b0) (by simp [look])
            have hb:=hg o List.mem_cons_self j b hgo hgs
            subst hb
            cases hc:a.tmps[x]? with
            | none=>simp
            | some u =>
              rw [Array.getD_eq_getD_getElem?,hc] at hv
              simp only [Option.getD_some] at hv
              subst hv
              cases b0 <;> simp
          · have hu:=hdead x (by cases hx with
              | head=>exact absurd rfl hxd
              | tail _ h=>exact h) hxd
            cases hc:a.tmps[x]? with
            | none=>simp
            | some u =>
              rw [Array.getD_eq_getD_getElem?,hc] at hu
              simp only [Option.getD_some] at hu
              subst hu
              simp [undef]
        show wpListIn (fen rd) 0 P all (zC P rd Q k) (o::(l++l2)) a w
        unfold wpListIn
        rw [if_neg hwant]
        refine ⟨fun _ _=>trivial,?_⟩
        have hput:∀ y,y≠d→(a.put o.dst undef).tmps.getD y undef=a.tmps.getD y undef:=fun y hy=>by
          simp only [Act.put,hdo,Array.getD_eq_getD_getElem?]
          rw [Array.getElem?_setIfInBounds_ne (fun e=>hy e.symm)]
        have hputd:(a.put o.dst undef).tmps.getD d undef=undef:=by
          simp only [Act.put,hdo,Array.getD_eq_getD_getElem?,Array.getElem?_setIfInBounds]
          by_cases hdl:d<a.tmps.size
          · simp [hdl]
          · simp [hdl]
        refine K1 l l2 (d::dead) (a.put o.dst undef) w ?_ hfr.2 (fun o' ho'=>hg o' (List.mem_cons_of_mem _ ho')) ?_ ?_ (by simp [Act.put,hdo,hd]) hK
        · exact Xu l _ _ (fun x hx=>by
            cases hx with
            | head=>exact List.mem_cons_of_mem _ List.mem_cons_self
            | tail _ hx=>cases hx with
              | head=>exact List.mem_cons_self
              | tail _ hx=>exact List.mem_cons_of_mem _ (List.mem_cons_of_mem _ hx)) hsk
        · refine ⟨by simp [Act.put,hdo,ha.size],fun y v hy=>?_⟩
          have hyd:y≠d:=fun e=>by subst e; rw [hfr.1] at hy; cases hy
          rw [hput y hyd]
          exact ha.val y v hy
        · intro y hy hyd
          by_cases hyd':y=d
          · subst hyd'; exact hputd
          · rw [hput y hyd']
            exact hdead y (by cases hy with
              | head=>exact absurd rfl hyd'
              | tail _ h=>exact h) hyd
inductive Ext (E:Env):Env→Prop
  | refl:Ext E E
  | cons {x:Nat} {v:Value} {cur:Env} (h:look E x=none) (hs:Ext E cur):Ext E ((x,v)::cur)
theorem Ext.look {E cur:Env} (h:Ext E cur):∀ x v,Sl.look E x=some v→Sl.look cur x=some v:=by
  induction h with
  | refl=>exact fun _ _ h=>h
  | @cons x u cur' hn _ ih =>
    intro y v hy
    simp only [Sl.look]
    by_cases hxy:x=y
    · subst hxy; rw [hn] at hy; cases hy
    · rw [zz hxy]; exact ih y v hy
def Met (w0:World) (n:Nat) (ds:List Deferred) (s:Operand) (v:Value) (E:Env) (H:qg) (a:Act) (w:World):Prop :=
  qL n E a∧a.eval s=v∧a.defers=ds∧Sat w0 H w
theorem qO {s:Operand} {v:Value} {E:Env} (hv:opv env s=some v) (hx:Ext E env):W P rd w0 Q n ds (.ops all []::.goal (Met w0 n ds s v E H)::k) env H :=
  fun a w ha hd hs=>⟨⟨ha.size,fun y u hy=>ha.val _ _ (hx.look _ _ hy)⟩,ha.opv hv,hd,hs⟩
def Xp (all:Array Oper) (dj:Nat) (b:Bool) (l:List Oper):Bool :=
  l.all fun o=>match o.guard,KC all o with
    | some (_,b'),some x=>!(Nat.beq x dj) || (b' == b)
    | _,_=>true
theorem qL.here {E:Env} {a:Act} {x:Nat} {v:Value} (h:qL n E a) (hx:look E x=some v):qL n ((x,v)::E) a:=⟨h.size,fun y u hy=>by
  simp only [look] at hy
  by_cases hsy:x=y
  · subst hsy
    have:Nat.beq x x=true:=by simp
    rw [this] at hy
    simp at hy; subst hy
    exact h.val _ _ hx
  · rw [zz hsy] at hy
    exact h.val _ _ hy⟩
theorem qL.unhere {E:Env} {a:Act} {x:Nat} {v:Value} (h:qL n ((x,v)::E) a) (hx:∀ u,look E x=some u→u=v):qL n E a:=⟨h.size,fun y u hy=>by
  by_cases hsy:x=y
  · subst hsy
    rw [hx u hy]
    exact h.val _ _ (by simp [look])
  · exact h.val _ _ (by simp only [look,zz hsy]; exact hy)⟩
theorem ZU {J:Act→World→Prop}:∀ (l1 l2:List Oper) (a:Act) (w:World),
    wpListIn (fen rd) 0 P all (zC P rd Q (.goal J::k)) l1 a w →
    (∀ a w,J a w→wpListIn (fen rd) 0 P all (zC P rd Q k) l2 a w) →
    wpListIn (fen rd) 0 P all (zC P rd Q k) (l1++l2) a w
  | [],_,a,w,h1,h2=>h2 a w h1
  | o::l1,l2,a,w,h1,h2=>by
    show wpListIn (fen rd) 0 P all (zC P rd Q k) (o::(l1++l2)) a w
    unfold wpListIn at h1 ⊢
    split at h1
    · rename_i hw
      rw [if_pos hw]
      refine ⟨h1.1,?_⟩
      have h3:=h1.2
      generalize (o.semAt (fen rd).round a.eval).run P w=r at h3 ⊢
      cases r with
      | ok x w' =>
        cases x <;> simp only [Oper.uponIn] at h3 ⊢
        case value v=>exact ZU l1 l2 _ _ h3 h2
        case skip=>exact ZU l1 l2 _ _ h3 h2
        case defer d=>exact ZU l1 l2 _ _ h3 h2
        case enter f args =>
          refine ⟨h3.1,h3.2.mono ?_⟩
          intro e w'' he
          cases e with
          | returned v=>exact ZU l1 l2 _ _ he h2
          | panicked c=>exact he
          | outgrown=>exact he
        case row r args=>exact ⟨h3.1,h3.2.mono fun v w'' he=>ZU l1 l2 _ _ he h2⟩
        case round l f tmps as body =>
          refine ⟨h3.1,h3.2.mono ?_⟩
          intro e w'' he
          cases e with
          | returned v=>exact ZU l1 l2 _ _ he h2
          | panicked c=>exact he
          | outgrown=>exact he
      | halt x w'=>cases x <;> simp only [Oper.uponIn] at h3 ⊢ <;> exact h3
    · rename_i hw
      rw [if_neg hw]
      exact ⟨h1.1,ZU l1 l2 _ _ h1.2 h2⟩
def gok (all:Array Oper) (env:Env):Option (Nat × Bool)→Bool
  | none=>true
  | some (j,b) =>
    match (all[j]?).bind (·.dst) with
    | some x=>match look env x with
      | some (.bool c)=>c == b
      | _=>false
    | none=>false
theorem qL.yielded {E:Env} {a:Act} (ha:qL n E a) {j x:Nat} {b:Bool} (hj:(all[j]?).bind (·.dst)=some x) (ht:look E x=some (.bool b)):yielded all a.tmps j=some b:=by
  have hv:=ha.val _ _ ht
  unfold Go.yielded
  rw [hj]
  simp only [Option.bind_some]
  have hlt:x<a.tmps.size:=by
    rcases Nat.lt_or_ge x a.tmps.size with h | h
    · exact h
    · rw [Array.getD_eq_getD_getElem?,Array.getElem?_eq_none h] at hv; simp [undef] at hv
  rw [Array.getD_eq_getD_getElem?,Array.getElem?_eq_getElem hlt] at hv
  rw [Array.getElem?_eq_getElem hlt]
  simp only [Option.getD_some] at hv
  rw [hv]
theorem qaW {E:Env} {a:Act} (ha:qL n E a) {d:Option Nat} {op:Op} {ty:TypeId} {pos:String} {aft:Array Edge} {pg:Option (Nat × Bool)} (h:gok all E pg=true):Region.wanted ⟨d,op,ty,pos,aft,pg⟩ (Go.yielded all a.tmps)=true:=by
  cases pg with
  | none=>rfl
  | some jb =>
    obtain ⟨j,b⟩:=jb
    simp only [gok] at h
    split at h
    · rename_i x hx
      split at h
      · rename_i c hc
        have:=ha.yielded hx hc
        simp only [Region.wanted,this]
        cases c <;> cases b <;> simp_all
      · cases h
    · cases h
theorem qcr {b0 t c:Bool} {j dj d:Nat} {G rest:List Oper} {d0:Option Nat} {op0:Op} {ty0:TypeId} {pos0:String} {aft0:Array Edge} {l:List Oper} {s px py:Operand} {ty:TypeId} {pos:String} {aft:Array Edge} {pg:Option (Nat × Bool)}
    (hj:(all[j]?).bind (·.dst)=some dj) (ht:look env dj=some (.bool t))
    (hl:Qy dj (⟨d0,op0,ty0,pos0,aft0,some (j,b0)⟩::l)=some (G,⟨some d,.pick (.tmp dj) px py,ty,pos,aft,pg⟩,rest))
    (hchk:(JY all [dj] G && Qd ((dj,.bool b0)::env) G && Xp all dj b0 G && dok n (some d) && gok all env pg)=true)
    (hx:(if b0=true then px else py)=s) (hy:(if b0=true then py else px)=.const (.bool (!b0)))
    (h1:t=b0→W P rd w0 Q n ds (.ops all G::.goal (Met w0 n ds s (.bool c) ((dj,.bool b0)::env) H)::k) ((dj,.bool b0)::env) H)
    (h2:W P rd w0 Q n ds (.ops all rest::k) ((d,.bool (bif b0 then t && c else t || c))::env) H) :
    W P rd w0 Q n ds (.ops all (⟨d0,op0,ty0,pos0,aft0,some (j,b0)⟩::l)::k) env H:=by
  intro a w ha hds hs
  show wpListIn (fen rd) 0 P all (zC P rd Q k) (_::l) a w
  rw [YW hl]
  simp only [Bool.and_eq_true] at hchk
  obtain ⟨⟨⟨⟨c1,c2⟩,c4⟩,c5⟩,c6⟩:=hchk
  have pick:∀ (a':Act) (w':World),qL n env a'→a'.defers=ds→Sat w0 H w'→(t=b0→a'.eval s=.bool c) →
      wpListIn (fen rd) 0 P all (zC P rd Q k) (⟨some d,.pick (.tmp dj) px py,ty,pos,aft,pg⟩::rest) a' w':=by
    intro a' w' ha' hds' hs' hev
    have hdj:a'.eval (.tmp dj)=.bool t:=ha'.val _ _ ht
    have hval:(if t=true then a'.eval px else a'.eval py)=.bool (bif b0 then t && c else t || c):=by
      cases b0 with
      | true =>
        simp only [if_true] at hx hy
        subst hx hy
        cases t with
        | true=>simpa using hev rfl
        | false=>simp [Act.eval]
      | false =>
        simp only [Bool.false_eq_true,if_false] at hx hy
        subst hx hy
        cases t with
        | true=>simp [Act.eval]
        | false=>simpa using hev rfl
    unfold wpListIn
    rw [if_pos (qaW ha' c6)]
    refine ⟨fun _ _=>trivial,?_⟩
    rw [Oper.semAt_eq _ _ _ (fun _ h=>by cases h)]
    have:(execOp a'.eval ⟨some d,.pick (.tmp dj) px py,ty,pos,aft,pg⟩).run P w'=.ok (.value (.bool (bif b0 then t && c else t || c))) w':=by
      rw [← hval]
      cases t <;> simp [execOp,hdj,asBool]
    rw [this,Oper.uponIn_value]
    exact h2 _ w' (ha'.put c5) hds' hs'
  by_cases htb:t=b0
  · subst htb
    refine ZU G _ a w (h1 rfl a w (ha.here ht) hds hs) ?_
    rintro a' w' ⟨ha',hev,hds',hs'⟩
    exact pick a' w' (ha'.unhere (fun u hu=>by rw [ht] at hu; exact (Option.some.inj hu).symm)) hds' hs' (fun _=>hev)
  · have htn:t=!b0:=by cases t <;> cases b0 <;> simp_all
    have hfr:∀ (G:List Oper),Qd ((dj,.bool b0)::env) G=true→Qd ((dj,.bool t)::env) G=true:=by
      intro G
      induction G with
      | nil=>exact fun _=>rfl
      | cons o G ih =>
        intro h
        simp only [Qd] at h ⊢
        cases hod:o.dst with
        | none=>simp only [hod] at h; exact ih h
        | some d' =>
          simp only [hod,Bool.and_eq_true,Option.isNone_iff_eq_none] at h ⊢
          refine ⟨?_,ih h.2⟩
          have:=h.1
          simp only [look] at this ⊢
          cases hb:Nat.beq dj d' with
          | true=>rw [hb] at this; simp at this
          | false=>rw [hb] at this; simpa using this
    refine K1 (b0:=t) (dj:=dj) G _ [] a w c1 (hfr G c2) ?_ (ha.here ht) (fun _ h=>by cases h) hds ?_
    · intro o' ho' j' b' hg' hgs'
      have:=List.all_eq_true.1 c4 o' ho'
      simp only [hg',hgs'] at this
      have hbb:Nat.beq dj dj=true:=by simp
      rw [hbb] at this
      simp at this
      rw [this,htn]; simp
    · intro a' ha' hds'
      exact pick a' w (ha'.unhere (fun u hu=>by rw [ht] at hu; exact (Option.some.inj hu).symm)) hds' hs (fun e=>absurd e htb)
end
end Go.Sl
namespace Go.Sl
section
variable {P:Program} {rd:Option Nat} {w0:World} {Q:Exit→Act→World→Prop} {n:Nat} {ds:List Deferred} {k:List It} {env env':Env} {H H':qg} {all:Array Oper} {rest:List Oper}
theorem zr {id:Nat} {l:List Oper} {y:Code} (h:W P rd w0 Q n ds (.ops l.toArray l::.code y::k) env H):W P rd w0 Q n ds (.code (.seq (.region id l.toArray false) y)::k) env H :=
  qcs (X9 h)
theorem qgT {c:Operand} {x y:Code} {t:Bool} (hc:opv env c=some (.bool t)) (ht:t=true) (h:W P rd w0 Q n ds (.code x::k) env H):W P rd w0 Q n ds (.code (.cond c x y)::k) env H :=
  qbM hc (fun _=>h) (fun hf=>absurd (ht.symm.trans hf) (by simp))
theorem KY {c:Operand} {x y:Code} {t:Bool} (hc:opv env c=some (.bool t)) (ht:t=false) (h:W P rd w0 Q n ds (.code y::k) env H):W P rd w0 Q n ds (.code (.cond c x y)::k) env H :=
  qbM hc (fun hf=>absurd (ht.symm.trans hf) (by simp)) (fun _=>h)
theorem qw {s:Nat} {x y:Code} {t:Bool} (hc:look env s=some (.bool t)) (ht:t=true→W P rd w0 Q n ds (.code x::k) ((s,.bool true)::env) H)
    (hf:t=false→W P rd w0 Q n ds (.code y::k) ((s,.bool false)::env) H):W P rd w0 Q n ds (.code (.cond (.tmp s) x y)::k) env H:=by
  refine qbM (x:=x) (y:=y) (c:=.tmp s) (t:=t) hc (fun e=>?_) (fun e=>?_)
  · intro a w ha hd hs
    exact ht e a w (ha.here (by rw [hc,e])) hd hs
  · intro a w ha hd hs
    exact hf e a w (ha.here (by rw [hc,e])) hd hs
theorem qv {s:Nat} {x y:Code} {t:Bool} {p:Prop} (hc:look env s=some (.bool t)) (hp:t=true↔p) (ht:p→W P rd w0 Q n ds (.code x::k) ((s,.bool true)::env) H)
    (hf:¬ p→W P rd w0 Q n ds (.code y::k) ((s,.bool false)::env) H):W P rd w0 Q n ds (.code (.cond (.tmp s) x y)::k) env H :=
  qw hc (fun e=>ht (hp.1 e)) (fun e=>hf (fun h=>by rw [hp.2 h] at e; cases e))
end
end Go.Sl
namespace Go.Sl
section
variable {P:Program} {rd:Option Nat} {w0:World} {Q:Exit→Act→World→Prop} {n:Nat} {ds:List Deferred} {k:List It} {env env':Env} {H H':qg} {all:Array Oper} {rest:List Oper}
theorem zj {t c:Bool} {j dj d:Nat} {G rest:List Oper} {d0:Option Nat} {op0:Op} {ty0:TypeId} {pos0:String} {aft0:Array Edge} {l:List Oper} {s:Operand} {ty:TypeId} {pos:String} {aft:Array Edge} {pg:Option (Nat × Bool)}
    (hj:(all[j]?).bind (·.dst)=some dj) (ht:look env dj=some (.bool t))
    (hl:Qy dj (⟨d0,op0,ty0,pos0,aft0,some (j,true)⟩::l)=some (G,⟨some d,.pick (.tmp dj) s (.const (.bool false)),ty,pos,aft,pg⟩,rest))
    (hchk:(JY all [dj] G && Qd ((dj,.bool true)::env) G && Xp all dj true G && dok n (some d) && gok all env pg)=true)
    (h1:t=true→W P rd w0 Q n ds (.ops all G::.goal (Met w0 n ds s (.bool c) ((dj,.bool true)::env) H)::k) ((dj,.bool true)::env) H)
    (h2:W P rd w0 Q n ds (.ops all rest::k) ((d,.bool (t && c))::env) H) :
    W P rd w0 Q n ds (.ops all (⟨d0,op0,ty0,pos0,aft0,some (j,true)⟩::l)::k) env H :=
  qcr hj ht hl hchk rfl rfl h1 h2
theorem YN {t c:Bool} {j dj d:Nat} {G rest:List Oper} {d0:Option Nat} {op0:Op} {ty0:TypeId} {pos0:String} {aft0:Array Edge} {l:List Oper} {s:Operand} {ty:TypeId} {pos:String} {aft:Array Edge} {pg:Option (Nat × Bool)}
    (hj:(all[j]?).bind (·.dst)=some dj) (ht:look env dj=some (.bool t))
    (hl:Qy dj (⟨d0,op0,ty0,pos0,aft0,some (j,false)⟩::l)=some (G,⟨some d,.pick (.tmp dj) (.const (.bool true)) s,ty,pos,aft,pg⟩,rest))
    (hchk:(JY all [dj] G && Qd ((dj,.bool false)::env) G && Xp all dj false G && dok n (some d) && gok all env pg)=true)
    (h1:t=false→W P rd w0 Q n ds (.ops all G::.goal (Met w0 n ds s (.bool c) ((dj,.bool false)::env) H)::k) ((dj,.bool false)::env) H)
    (h2:W P rd w0 Q n ds (.ops all rest::k) ((d,.bool (t || c))::env) H) :
    W P rd w0 Q n ds (.ops all (⟨d0,op0,ty0,pos0,aft0,some (j,false)⟩::l)::k) env H :=
  qcr hj ht hl hchk rfl rfl h1 h2
end
end Go.Sl
namespace Go.Sl
open Go.RowKit
def zA (l:List Value) (off:Nat) (c:List Value):List Value:=l.take off++c++l.drop (off+c.length)
theorem QM {l c:List Value} {off:Nat} (h:off+c.length≤l.length):(zA l off c).length=l.length:=by
  simp [zA]; omega
theorem ZC:∀ (c:List Value) (off j0:Nat) (cells:Array Value),off+j0+c.length≤cells.size →
    ((c.zipIdx j0).foldl (fun cs (x:Value × Nat)=>cs.setIfInBounds (off+x.2) x.1) cells).toList=zA cells.toList (off+j0) c
  | [],off,j0,cells,_=>by simp [zA]
  | x::c,off,j0,cells,h=>by
    simp only [List.zipIdx_cons,List.foldl_cons]
    simp only [List.length_cons] at h
    rw [ZC c off (j0+1) _ (by simp; omega)]
    have hlt:off+j0<cells.toList.length:=by simp; omega
    simp only [zA,Array.toList_setIfInBounds,List.length_cons]
    rw [show off+(j0+1)=off+j0+1 by omega]
    rw [show off+j0+(c.length+1)=off+j0+1+c.length by omega]
    rw [List.drop_set_of_lt (by omega)]
    rw [List.take_set,List.take_succ_eq_append_getElem hlt,List.set_append_right _ _ (by simp; omega)]
    have hmin:min (off+j0) cells.size=off+j0:=Nat.min_eq_left (by simp at hlt; omega)
    simp [hmin]
def Ym (l:List Value):List (Nat × List Value)→List Value
  | []=>l
  | (off,c)::r=>Ym (zA l off c) r
theorem qaA {place:Nat→Option (Nat × Nat)}:∀ (parts:List (Nat × Value)) (ps:List (Nat × List Value)) (cells:Array Value),
    List.length parts=List.length ps→(∀ (i:Nat) p q,parts[i]?=some p→ps[i]?=some q→place p.1=some (q.1,q.2.length)∧p.2.cells.toList=q.2∧q.1+q.2.length≤cells.size) →
    ∃ out,Instr.fill place cells parts=some out∧out.toList=Ym cells.toList ps
  | [],[],cells,_,_=>⟨cells,rfl,rfl⟩
  | (i,v)::parts,(off,c)::ps,cells,hl,h=>by
    obtain ⟨h1,h2,h3⟩:=h 0 (i,v) (off,c) rfl rfl
    simp only at h1 h2 h3
    have hsz:v.cells.size=c.length:=by rw [← h2]; simp
    have hf:(v.cells.zipIdx.foldl (fun cs (x:Value × Nat)=>cs.setIfInBounds (off+x.2) x.1) cells).toList=zA cells.toList off c:=by
      rw [← Array.foldl_toList,Array.toList_zipIdx,h2]
      have:=ZC c off 0 cells (by simpa using h3)
      simpa using this
    have hs2:(v.cells.zipIdx.foldl (fun cs (x:Value × Nat)=>cs.setIfInBounds (off+x.2) x.1) cells).size=cells.size:=by
      rw [← Array.length_toList,hf,QM (by simpa using h3)]; simp
    obtain ⟨out,ho,hol⟩:=qaA parts ps (v.cells.zipIdx.foldl (fun cs (x:Value × Nat)=>cs.setIfInBounds (off+x.2) x.1) cells) (by simpa using hl)
      (fun k p q hp hq=>by rw [hs2]; exact h (k+1) p q (by simpa using hp) (by simpa using hq))
    refine ⟨out,?_,by rw [hol,hf]; rfl⟩
    unfold Instr.fill
    simp only [h1]
    rw [if_neg (by simp [hsz]; simpa using h3)]
    exact ho
inductive JA (env:Env) (place:Nat→Option (Nat × Nat)) (tot:Nat):List (Nat × Operand)→List (Nat × List Value)→Prop
  | nil:JA env place tot [] []
  | cons {i off s:Nat} {x:Operand} {v:Value} {c:List Value} {l:List (Nat × Operand)} {ps:List (Nat × List Value)} (hx:opv env x=some v) (hp:place i=some (off,s)) (hc:v.cells.toList=c) (hs:c.length=s)
      (ht:Nat.ble (off+s) tot=true) (h:JA env place tot l ps):JA env place tot ((i,x)::l) ((off,c)::ps)
theorem JA.run {n tot:Nat} {env:Env} {a:Act} {place:Nat→Option (Nat × Nat)} (ha:qL n env a) {l:List (Nat × Operand)} {ps:List (Nat × List Value)} (h:JA env place tot l ps) {cells:Array Value} (hc:cells.size=tot) :
    ∃ out,Instr.fill place cells (l.map fun (i,x)=>(i,a.eval x))=some out∧out.toList=Ym cells.toList ps:=by
  subst hc
  refine qaA _ _ _ ?_ ?_
  · induction h with
    | nil=>rfl
    | cons _ _ _ _ _ _ ih=>simpa using ih
  · induction h with
    | nil=>intro i p q hp; simp at hp
    | cons hx hp hc hs ht _ ih =>
      intro k p q h1 h2
      cases k with
      | zero =>
        simp at h1 h2
        subst h1 h2
        refine ⟨by rw [hs]; exact hp,by rw [ha.opv hx]; exact hc,?_⟩
        simp only
        rw [hs]; simpa using ht
      | succ k=>exact ih k p q (by simpa using h1) (by simpa using h2)
section
variable {P:Program} {rd:Option Nat} {w0:World} {Q:Exit→Act→World→Prop} {n:Nat} {ds:List Deferred} {k:List It} {env env':Env} {H H':qg} {all:Array Oper} {rest:List Oper}
variable {d:Nat} {x y c:Operand} {t u ty:TypeId} {pos:String} {aft:Array Edge} {v:Value} {tys:Array TypeId}
def J3 (es:Nat):Nat→Option (Nat × Nat):=fun i=>some (i*es,es)
def qaV (z:List Value) (m:Nat):List Value:=(List.range m).map fun i=>z.getD (i%z.length) undef
theorem qy {len s es by_ eb m:Nat} {e:TypeId} {z ez:Value} {ed:TypeDesc} {parts:List (Nat × Operand)} {ps:List (Nat × List Value)} {l:List Value} (ht:Ty P t (.slice e) s z by_) (he:Ty P e ed es ez eb)
    (hp:JA env (J3 es) m parts ps) (hm:len*es=m) (hsz:Nat.ble m 16777216=true) (hz:Nat.beq ez.cells.size es=true) (hes:Nat.blt 0 es=true) (hl:Ym (qaV ez.cells.toList m) ps=l) (hll:l.length=m) (hd:Nat.blt d n=true)
    (h:∀ b:Nat,W P rd w0 Q n ds (.ops all rest::k) ((d,.slice (some ⟨b,0,none⟩) len len)::env) ((b,.cells e m l)::H)) :
    W P rd w0 Q n ds (.ops all (⟨some d,.buildSlice t len parts.toArray,ty,pos,aft,none⟩::rest)::k) env H:=by
  subst hm
  refine Jy rfl nofun hd fun a w ha hs=>?_
  have hz':ez.cells.size=es:=by simpa using hz
  have hes':0<es:=by simpa using hes
  have hsz':len*es≤16777216:=by simpa using hsz
  have hzl:((Array.range (len*es)).map (ez.cells[·%ez.cells.size]!)).toList=qaV ez.cells.toList (len*es):=by
    simp only [qaV,Array.toList_map,Array.toList_range]
    refine List.map_congr_left fun i hi=>?_
    have hlt:i%ez.cells.size<ez.cells.size:=Nat.mod_lt _ (by omega)
    have hlt':i%ez.cells.toList.length<ez.cells.toList.length:=by simpa using hlt
    show ez.cells[i%ez.cells.size]! = ez.cells.toList.getD (i%ez.cells.toList.length) undef
    rw [getElem!_pos ez.cells _ hlt,List.getD,List.getElem?_eq_getElem hlt']
    simp
  obtain ⟨out,ho,hol⟩:=hp.run ha (cells:=(Array.range (len*es)).map (ez.cells[·%ez.cells.size]!)) (by simp)
  rw [hzl,hl] at hol
  have hos:out.size=len*es:=by rw [← Array.length_toList,hol,hll]
  refine ⟨.slice (some ⟨w.heap.size,0,none⟩) len len,_,w.alloc (.cells out e),.inl ?_,hs.alloc _ (At.alloc_cells w out e),?_⟩
  · have hr:(Instr.buildSlice t len (parts.map fun (i,x)=>(i,a.eval x)).toArray).run P w=.ok (.slice (some ⟨w.heap.size,0,none⟩) len len) (w.alloc (.cells out e)):=by
      unfold Instr.buildSlice
      simp only [Sem.run_bind,ht.run,he.size,Result.andThen]
      rw [if_neg (by omega)]
      by_cases h0:len*es=0
      · have hl0:len=0:=by
          rcases Nat.mul_eq_zero.1 h0 with h | h
          · exact h
          · omega
        subst hl0
        have e0:∀ f:Nat→Value,Array.map f (Array.range (0*es))=#[]:=fun f=>by simp
        rw [e0] at ho
        have ho':Instr.fill (fun i=>some (i*es,es)) #[] (parts.map fun (i,x)=>(i,a.eval x))=some out:=ho
        simp only [h0,if_true,Sem.run_pure,Result.andThen]
        have e1:∀ f:Nat→Value,Array.map f (Array.range 0)=#[]:=fun f=>by simp
        simp only [e1,ho']
        simp [newRow,Result.andThen]
      · have ho':=ho
        unfold J3 at ho'
        simp [h0,he.zero,Result.andThen,ho',newRow]
    simp [execOp,hr,Result.andThen]
  · have:=h w.heap.size
    rw [← hol,← hos] at this
    simpa [put] using this
structure qG (P:Program) (t:TypeId) (pl:List (Nat × Nat)):Prop where
  is:∃ fs,P.underlying t=some (.struct fs)∧∀ w,(fs.mapM fun f=>(do pure (f.offset,← sizeOf f.type):Sem (Nat × Nat))).run P w=.ok pl.toArray w
theorem ql {s by_:Nat} {z:Value} {td:TypeDesc} {pl:List (Nat × Nat)} {parts:List (Nat × Operand)} {ps:List (Nat × List Value)} {l:List Value} (ht:Ty P t td s z by_) (hst:qG P t pl)
    (hp:JA env (fun i=>pl[i]?) s parts ps) (hz:Nat.beq z.cells.size s=true) (hl:Ym z.cells.toList ps=l) (hd:Nat.blt d n=true)
    (h:W P rd w0 Q n ds (.ops all rest::k) ((d,.agg l.toArray)::env) H) :
    W P rd w0 Q n ds (.ops all (⟨some d,.build t parts.toArray,ty,pos,aft,none⟩::rest)::k) env H :=
  q5 rfl nofun hd (fun a w ha _=>by
    obtain ⟨fs,h1,h2⟩:=hst.is
    obtain ⟨out,ho,hol⟩:=hp.run ha (cells:=z.cells) (by simpa using hz)
    have hout:out=l.toArray:=by apply Array.ext'; rw [hol,hl]
    have h2':=h2 w
    have ho':Instr.fill (pl.toArray[·]?) z.cells (parts.map fun (i,x)=>(i,a.eval x))=some out:=by
      simpa using ho
    have hr:(Instr.build t (parts.map fun (i,x)=>(i,a.eval x)).toArray).run P w=.ok (.agg l.toArray) w:=by
      unfold Instr.build
      simp only [Sem.run_bind,ht.zero,Result.andThen,run_underlying h1]
      rw [h2']
      simp only [ho',hout,Sem.run_pure]
    simp [execOp,hr,Result.andThen]) h
end
end Go.Sl
namespace Go.Sl
open Go.ChangeShapes Go.WideShapes Go.ChangeAt Go.RowKit
section
variable {H:Type} {enc:TypeId × Value→H} {P:Program}
theorem ZW {w w':World} {base:Nat} {spare:Nat→Bool} {held:Bool}:∀ {ts:List TypeId} {vs:List Value} {ds:List (DataW H)} {ps:List MemPlace},
    DataW.TrodAll enc P w base spare held ts vs ds ps→(∀ p∈ps,w.sameAt w' p)→DataW.TrodAll enc P w' base spare held ts vs ds ps
  | [],[],[],_,h,_=>h
  | _::_,_::_,_::_,_,⟨p,q,⟨n,h1⟩,h2,e⟩,hs =>
    ⟨p,q,⟨n,DataW.trod_carry _ _ _ _ h1 (fun x hx=>hs x (by rw [e]; exact List.mem_append_left _ hx))⟩,ZW h2 (fun x hx=>hs x (by rw [e]; exact List.mem_append_right _ hx)),e⟩
theorem qd3 {f:Func} {s:ChangeSpec} {apart fresh handsOn again:Bool} {W W':World} {args:Array Value} {ds gs:List (DataW H)} {before p q:List MemPlace} {t:TypeId}
    (hk:Kids P (·<P.types.size)) (hz:∀ t e,t<P.types.size→P.underlying t=some (.slice e)→0<P.cellsOf e) (hts:∀ t∈f.params.toList,t<P.types.size)
    (hW:DataW.Whole enc P f.params.toList s.vars apart W args.toList ds gs before) (hA:DataW.TrodAll enc P W 0 (fun _=>true) true f.params.toList args.toList ds p) (hgs:gs=[]) (hp:before=p++q) (hq:q=[]) (hv:s.vars=[])
    (hfn:s.fn H (ds++gs)={ results:=[.lit (.bool true)],args:=ds }) (hrt:f.resultTypes=#[t]) (ht:P.underlying t=some .bool) (hb:Below W.heap.size W W') :
    s.post enc P f apart fresh handsOn again W args (.bool true) W':=by
  subst hgs hp hq
  have hlt:∀ p'∈p,p'.block<W.heap.size:=fun p' hp'=>hW.lt p' (by simpa using hp')
  have hold:∀ p'∈p++[],(fun b=>decide (b<W.heap.size)) p'.block=true:=fun p' hp'=>by simpa using hlt p' (by simpa using hp')
  have hargs:∀ sp:Nat→Bool,(∀ p'∈p++[],sp p'.block=true)→DataW.TrodAll enc P W' 0 sp true f.params.toList args.toList (s.fn H (ds++[])).args p:=fun sp hsp=>by
    rw [hfn]
    exact ZW (DataW.TrodAll.respare hk hz hts hA (fun p' hp'=>hsp p' (by simpa using hp'))) (fun p' hp'=>hb.same (hlt p' hp'))
  have hres:∀ (b:Nat) (sp:Nat→Bool) (hd:Bool),DataW.TrodAll enc P W' b sp hd f.resultTypes.toList ((Value.bool true).resultList f.resultTypes.size) (s.fn H (ds++[])).results []:=fun b sp hd=>by
    rw [hfn,hrt]
    exact trodAll_mk1 (shut_bool ht _)
  have hvars:∀ sp:Nat→Bool,(∀ p'∈p++[],sp p'.block=true)→DataW.TrodVars enc P W' sp s.vars (s.fn H (ds++[])).vars []:=fun sp _=>by
    rw [hfn,hv]; rfl
  have hok:∀ (j:Nat) (t':TypeId) (r:Value),f.resultTypes[j]?=some t'→((Value.bool true).resultList f.resultTypes.size)[j]?=some r→Value.okWide P W' .any 0 t' r:=by
    exact ok_one hrt rfl (okWide_bool_mk ht _)
  refine ⟨ds,[],p++[],[],p,[],hW,hres _ _ _,hargs _ hold,hvars _ hold,World.keptBut_mono (fun p' hp'=>⟨hp',?_⟩) (hb.frame (·∈p++[])),fun _=>?_⟩
  · rw [List.mem_append] at hp'
    exact Or.inr hp'
  · obtain ⟨_,_,_,_,_,hz',hn⟩:=hW
    refine ⟨hok,_,_,([]++p)++[],⟨[]++p,[],trodAll_append (hargs _ (fun _ _=>rfl)) (hres _ _ _),hvars _ (fun _ _=>rfl),rfl,?_,?_⟩,?_⟩
    · intro b off hp'
      have hin:MemPlace.cell b off∈p++[]:=by simpa using hp'
      rw [hb.frozen (hlt (MemPlace.cell b off) (by simpa using hin))]
      exact hz' b off hin
    · intro ha; simpa using hn ha
    · intro p' hp' _; simpa using hp'
end
theorem Qc.calls {P:Program} {T:World→Prop} {f:FuncId} {args:List Value} {v:Value} (h:Qc P T f args v) {W:World} (hT:T W):Calls P f args.toArray W fun e w'=>e=.returned v∧Below W.heap.size W w' :=
  callsIn_wide.1 ((h W [] hT W (Sat.nil (Below.refl _ _))).mono fun _ _ ⟨_,_,he,⟨hv,_⟩,hs⟩=>⟨by rw [he,hv],hs.below⟩)
end Go.Sl
namespace Go.Sl
open Go.ChangeShapes Go.WideShapes Go.ChangeAt Go.RowKit
def Jh (w:World) (ad:Option Addr) (l:List Value):Prop:=∀ (j:Nat) x,l[j]?=some x→∃ b o,ad=some ⟨b,o,none⟩∧w.cell? ⟨b,o+j,none⟩=some x
theorem Jh.take {w:World} {ad:Option Addr} {l:List Value} (h:Jh w ad l) (k:Nat):Jh w ad (l.take k):=fun j x hx=>h j x (by
  rw [List.getElem?_take] at hx
  split at hx
  · exact hx
  · cases hx)
theorem Jh.nil {w:World} {ad:Option Addr}:Jh w ad []:=fun j x hx=>by simp at hx
theorem Jh.of_spot {w:World} {a:Addr} {l:List Value} (h:∀ j x,l[j]?=some x→w.cell? (a.add j)=some x):Jh w (some a) l:=fun j x hx=>by
  have h1:=h j x hx
  obtain ⟨b,off,spot⟩:=a
  have h0:w.cell? (Addr.add ⟨b,off,spot⟩ 0)=some (l[0]'(by have:=(List.getElem?_eq_some_iff.1 hx).1; omega)):=h 0 _ (List.getElem?_eq_getElem _)
  have hspot:spot=none:=by simpa [Addr.add] using World.cell?_spot h0
  subst hspot
  exact ⟨b,off,rfl,by rw [← Go.WideShapes.add_plain]; exact h1⟩
section
variable {H:Type} {enc:TypeId × Value→H} {P:Program} {w:World} {base:Nat} {held:Bool}
end
end Go.Sl
namespace Go.Sl
open Go.RowKit
inductive QK (p:Nat × Blk):qg→qg→Prop
  | here (H:qg):QK p (p::H) H
  | next {q:Nat × Blk} {H H1:qg} (h:QK p H H1):QK p (q::H) (q::H1)
  | app {S H H1:qg} (h:QK p H H1):QK p (S++H) (S++H1)
theorem QK.perm {p:Nat × Blk} {H H1:qg} (h:QK p H H1):H.Perm (p::H1):=by
  induction h with
  | here H=>exact .refl _
  | next _ ih=>exact (ih.cons _).trans (.swap _ _ _)
  | app _ ih=>exact (ih.append_left _).trans List.perm_middle
theorem QK.mem {p:Nat × Blk} {H H1:qg} (h:QK p H H1):p∈H:=h.perm.mem_iff.2 List.mem_cons_self
inductive qf (S:qg):qg→qg→Prop
  | here (H:qg):qf S (S++H) H
  | next {q:Nat × Blk} {H H1:qg} (h:qf S H H1):qf S (q::H) (q::H1)
  | app {S' H H1:qg} (h:qf S H H1):qf S (S'++H) (S'++H1)
theorem qf.perm {S H H1:qg} (h:qf S H H1):H.Perm (S++H1):=by
  induction h with
  | here H=>exact .refl _
  | next _ ih=>exact (ih.cons _).trans List.perm_middle.symm
  | app _ ih=>exact (ih.append_left _).trans (by rw [← List.append_assoc,← List.append_assoc]; exact List.perm_append_comm.append_right _)
inductive qd:qg→qg→Prop
  | nil (H:qg):qd H []
  | refl (H:qg):qd H H
  | cons {p:Nat × Blk} {H H1 H':qg} (h:QK p H H1) (hs:qd H1 H'):qd H (p::H')
  | app {S H H1 H':qg} (h:qf S H H1) (hs:qd H1 H'):qd H (S++H')
  | drop {p:Nat × Blk} {H H':qg} (hs:qd H H'):qd (p::H) H'
  | dropS {S H H':qg} (hs:qd H H'):qd (S++H) H'
  | cut {b e tot j:Nat} {l:List Value} {H:qg}:qd ((b,.cells e tot l)::H) ((b,.cells e tot (l.take j))::H)
  | trans {H H1 H2:qg} (h:qd H H1) (hs:qd H1 H2):qd H H2
theorem Sat.hsub' {w0 w:World} {H H':qg} (hs:qd H H'):∀ S:qg,Sat w0 (S++H) w→Sat w0 (S++H') w:=by
  induction hs with
  | nil H=>exact fun S h=>h.sublist (by rw [List.append_nil]; exact List.sublist_append_left _ _)
  | refl H=>exact fun S h=>h
  | @cons p H H1 H' hT _ ih =>
    intro S h
    have h1:=h.perm ((hT.perm.append_left S).trans (by rw [← List.singleton_append,← List.append_assoc]))
    have h2:=ih (S++[p]) h1
    rwa [List.append_assoc,List.singleton_append] at h2
  | @app S' H H1 H' hT _ ih =>
    intro S h
    have h1:=h.perm ((hT.perm.append_left S).trans (by rw [← List.append_assoc]))
    have h2:=ih (S++S') h1
    rwa [List.append_assoc] at h2
  | @drop p H H' _ ih=>exact fun S h=>ih S (h.sublist ((List.Sublist.refl S).append (List.sublist_cons_self p H)))
  | @dropS S' H H' _ ih=>exact fun S h=>ih S (h.sublist ((List.Sublist.refl S).append (List.sublist_append_right S' H)))
  | trans _ _ ih1 ih2=>exact fun S h=>ih2 S (ih1 S h)
  | @cut b e tot j l H =>
    intro S h
    refine ⟨h.below,?_,fun p hp=>?_⟩
    · have:=h.nodup
      simpa using this
    · rcases List.mem_append.1 hp with hp | hp
      · exact h.own p (List.mem_append_left _ hp)
      · cases hp with
        | head =>
          obtain ⟨h1,c,h2,h3,h4⟩:=h.own (b,.cells e tot l) (List.mem_append_right _ List.mem_cons_self)
          refine ⟨h1,c,h2,h3,?_⟩
          show c.toList.take (l.take j).length=l.take j
          rw [List.length_take]
          conv=>rhs; rw [← h4]
          rw [List.take_take]
        | tail _ hp=>exact h.own p (List.mem_append_right _ (List.mem_cons_of_mem _ hp))
theorem Sat.hsub {w0 w:World} {H H':qg} (h:Sat w0 H w) (hs:qd H H'):Sat w0 H' w:=by
  simpa using Sat.hsub' hs [] (by simpa using h)
section
variable {P:Program} {rd:Option Nat} {w0:World} {Q:Exit→Act→World→Prop} {n:Nat} {ds:List Deferred} {k:List It} {env env':Env} {H H':qg}
theorem qP (hs:qd H H') (h:W P rd w0 Q n ds k env H'):W P rd w0 Q n ds k env H:=fun a w ha hd hs'=>h a w ha hd (hs'.hsub hs)
end
inductive qQ (e:TypeId) (s:Nat):Value→Nat→List Value→qg→Prop
  | nil:qQ e s (.slice none 0 0) 0 [] []
  | own {b n cap:Nat} {xs:List Value} (h1:xs.length=n*s) (h2:n≤cap) (h3:cap≤maxLen):qQ e s (.slice (some ⟨b,0,none⟩) n cap) n xs [(b,.cells e (cap*s) xs)]
theorem qQ.length {e:TypeId} {s:Nat} {v:Value} {n:Nat} {xs:List Value} {HB:qg} (h:qQ e s v n xs HB):xs.length=n*s:=by
  cases h with
  | nil=>simp
  | own h1 _ _=>exact h1
theorem qQ.shape {e:TypeId} {s:Nat} {v:Value} {n:Nat} {xs:List Value} {HB:qg} (h:qQ e s v n xs HB):∃ ad cap,v=.slice ad n cap∧n≤cap∧cap≤maxLen:=by
  cases h with
  | nil=>exact ⟨_,_,rfl,Nat.le_refl _,Nat.zero_le _⟩
  | own _ h2 h3=>exact ⟨_,_,rfl,h2,h3⟩
theorem qQ.pos {e:TypeId} {s:Nat} {v:Value} {n:Nat} {xs:List Value} {HB:qg} (h:qQ e s v n xs HB) (hn:0<n):∃ b cap,v=.slice (some ⟨b,0,none⟩) n cap∧HB=[(b,.cells e (cap*s) xs)]∧n≤cap:=by
  cases h with
  | nil=>omega
  | own _ h2 _=>exact ⟨_,_,rfl,rfl,h2⟩
theorem qQ.cut {e:TypeId} {s:Nat} {ad:Option Addr} {n cap j:Nat} {xs:List Value} {HB:qg} (h:qQ e s (.slice ad n cap) n xs HB) (hj:j≤n):∃ HB',qQ e s (.slice ad j cap) j (xs.take (j*s)) HB'∧∀ H,qd (HB++H) (HB'++H):=by
  cases h with
  | nil => obtain rfl : j = 0 := by omega
           exact ⟨[],by simpa using qQ.nil,fun H=>.refl _⟩
  | own h1 h2 h3=>exact ⟨_,.own (by rw [List.length_take,h1]; have:=Nat.mul_le_mul_right s hj; omega) (by omega) h3,fun H=>.cut⟩
def qq (w0:World) (H:qg) (ad:Option Addr) (l:List Value):Prop:=∀ (j:Nat) x,l[j]?=some x→∃ b o,ad=some ⟨b,o,none⟩∧qh w0 H b (o+j) x
theorem qq.nil {w0:World} {H:qg} {ad:Option Addr}:qq w0 H ad []:=fun j x h=>by simp at h
theorem qq.own {w0:World} {H:qg} {b e tot:Nat} {l:List Value} (hm:(b,Blk.cells e tot l)∈H):qq w0 H (some ⟨b,0,none⟩) l:=fun j x h=>⟨b,0,rfl,by rw [Nat.zero_add]; exact qh.own hm h⟩
theorem Ql {w0 w:World} {b:Nat} {cs:Array Value} (hb:w0.heap.size≤b):Below w0.heap.size w (w.setRow b cs) :=
  ⟨rfl,rfl,rfl,by simp [World.setRow],fun k hk=>setRow_other w b k cs (by omega)⟩
theorem qfy {P:Program} {w0 w:World} {H0 HB:qg} {t e:TypeId} {s sl bytes bl:Nat} {z zl:Value} {ty:TypeId} (ht:Ty P t (.slice e) sl zl bl) {de:TypeDesc} (he:Ty P e de s z bytes) (hzs:z.cells.size=s) (hsz:0<s)
    {v:Value} {n:Nat} {xs:List Value} (ho:qQ e s v n xs HB) (hs:Sat w0 (HB++H0) w)
    {ad:Option Addr} {m c:Nat} {news:List Value} (hl:news.length=m*s) (hnews:∀ (j:Nat) x,news[j]?=some x→∃ b o,ad=some ⟨b,o,none⟩∧w.cell? ⟨b,o+j,none⟩=some x) (h1:∀ u∈news,u.oneCell'=true)
    (h63:n+m≤maxLen) (hbytes:(n+m)*bytes≤140737488355328) :
    ∃ v' HB' w',(Builtin.append_ #[t,t] ty #[v,.slice ad m c]).run P w=.ok v' w'∧qQ e s v' (n+m) (xs++news) HB'∧Sat w0 (HB'++H0) w':=by
  obtain ⟨i,hi,hsize,hz,hby⟩:=he.info
  subst hsize
  have hsmall:n+m≤9223372036854775807:=by simp only [maxLen] at h63; omega
  by_cases hm:m=0
  · subst hm
    have hn:news=[]:=List.eq_nil_of_length_eq_zero (by simpa using hl)
    subst hn
    refine ⟨v,HB,w,?_,by simpa using ho,hs⟩
    cases ho with
    | nil=>cases ad <;> simp [Builtin.append_,run_underlying ht.und,sizeOf,typeInfo,hi,Builtin.lenOf,Builtin.firstCells,loadCells,loadCellsFrom]
    | own _ h2 _=>cases ad <;> simp [Builtin.append_,run_underlying ht.und,sizeOf,typeInfo,hi,Builtin.lenOf,Builtin.firstCells,loadCells,loadCellsFrom,h2,storeCells]
  · have hpos:0<news.length:=by rw [hl]; exact Nat.mul_pos (by omega) hsz
    obtain ⟨b0,o0,hb0,_⟩:=hnews 0 _ (List.getElem?_eq_getElem hpos)
    subst hb0
    have hnews':∀ (W:World),W.heap=w.heap→∀ j u,news[j]?=some u→W.cell? (Addr.add ⟨b0,o0,none⟩ j)=some u:=fun W hW j u hu=>by
      obtain ⟨b,o,he',hc⟩:=hnews j u hu
      cases he'
      rw [qx]
      have:W.cell? ⟨b0,o0+j,none⟩=w.cell? ⟨b0,o0+j,none⟩:=by simp [World.cell?,hW]
      rw [this]; exact hc
    have grown:∀ old:Nat,qQ e i.size (.slice (some ⟨w.heap.size,0,none⟩) (n+m) (grownCap w (n+m) old e)) (n+m) (xs++news) [(w.heap.size,.cells e (grownCap w (n+m) old e*i.size) (xs++news))] ∧
        Sat w0 ([(w.heap.size,Blk.cells e (grownCap w (n+m) old e*i.size) (xs++news))]++H0) (w.drew.alloc (.cells (xs.toArray++news.toArray++Builtin.zeroCells z.cells (grownCap w (n+m) old e-(n+m))) e)):=fun old=>by
      have hge:=grownCap_ge w (n+m) old e
      have hcm:grownCap w (n+m) old e≤maxLen:=grownCap_le_maxLen w (n+m) old e h63
      have hlen:(xs++news).length=(n+m)*i.size:=by rw [List.length_append,ho.length,hl,Nat.add_mul]
      refine ⟨.own hlen hge hcm,?_⟩
      have hs0:Sat w0 H0 w:=hs.sublist (List.sublist_append_right _ _)
      refine hs0.drew.alloc _ ?_
      refine ⟨_,World.alloc_heap_new w.drew _,?_,?_⟩
      · simp only [Array.size_append,List.size_toArray,size_zeroCells,hzs,ho.length,hl,← Nat.add_mul]
        congr 1
        omega
      · simp only [Array.toList_append,List.append_assoc]
        rw [← List.append_assoc]
        exact List.take_left
    cases ho with
    | nil =>
      have hr:=run_append_nil (P:=P) w t ty e i z ht.und hi hz ⟨b0,o0,none⟩ m c news hl (hnews' w rfl) (by omega) (by omega) (by rw [hby]; simp only [Nat.zero_add] at hbytes; omega)
      obtain ⟨hg1,hg2⟩:=grown 0
      simp only [Nat.zero_add,List.nil_append,Array.empty_append] at hg1 hg2 hr ⊢
      exact ⟨_,_,_,hr,hg1,hg2⟩
    | @own b _ cap _ hx1 hx2 hx3 =>
      obtain ⟨hb,cur,hc,hsz',htk⟩:=hs.own (b,.cells e (cap*i.size) xs) (by simp)
      by_cases hroom:n+m≤cap
      · have hfit:n*i.size+news.length≤cur.size:=by rw [hl,hsz',← Nat.add_mul]; exact Nat.mul_le_mul_right _ hroom
        have hr:=run_append_room (P:=P) w t ty e i ht.und hi b n cap cur hc ⟨b0,o0,none⟩ m c news hl (hnews' w rfl) h1 hroom hfit
        have hlen:(xs++news).length=(n+m)*i.size:=by rw [List.length_append,hx1,hl,Nat.add_mul]
        refine ⟨_,_,_,hr,.own hlen hroom hx3,?_⟩
        refine hs.upd (b:=b) (k:=.cells e (cap*i.size) xs) (.head _) (Ql hb) (fun j hj _=>setRow_other w b j _ hj) ?_
        refine ⟨_,setRow_heap w b cur _ e _ hc,?_,?_⟩
        · simp only [List.size_toArray,List.length_append,List.length_take,List.length_drop,Array.length_toList]
          omega
        · show (List.take (n*i.size) cur.toList++news++List.drop (n*i.size+news.length) cur.toList).take (xs++news).length=_
          rw [← hx1,htk]
          exact List.take_left
      · have holds:∀ j u,xs[j]?=some u→w.cell? (Addr.add ⟨b,0,none⟩ j)=some u:=fun j u hu=>by
          rw [qx,Nat.zero_add]
          exact hs.cell (b:=b) (e:=e) (tot:=cap*i.size) (l:=xs) (by simp) hu
        have hr:=run_append_grow (P:=P) w t ty e i z ht.und hi hz ⟨b,0,none⟩ n cap xs hx1 holds ⟨b0,o0,none⟩ m c news hl (hnews' w rfl) (by omega) (by omega) (growslice_fits (by omega) (by rw [hby]; exact hbytes))
        obtain ⟨hg1,hg2⟩:=grown cap
        exact ⟨_,_,_,hr,hg1,hg2⟩
section
variable {P:Program} {rd:Option Nat} {w0:World} {Q:Exit→Act→World→Prop} {n:Nat} {ds:List Deferred} {k:List It} {env env':Env} {H H':qg} {all:Array Oper} {rest:List Oper}
variable {d:Nat} {x y c:Operand} {t u ty:TypeId} {pos:String} {aft:Array Edge} {v:Value} {tys:Array TypeId}
theorem zy {HB H0:qg} {e:TypeId} {s sl bytes bl m len cap:Nat} {z zl:Value} {de:TypeDesc} {xs news:List Value} {ad:Option Addr} (hx:opv env x=some v) (hy:opv env y=some (.slice ad m cap)) (ht:Ty P t (.slice e) sl zl bl) (he:Ty P e de s z bytes) (hzs:z.cells.size=s) (hsz:0<s)
    (ho:qQ e s v len xs HB) (hl:news.length=m*s) (hnews:qq w0 H ad news) (h1:news.all Value.oneCell'=true) (h63:len+m≤maxLen) (hbytes:(len+m)*bytes≤140737488355328) (hH:qd H (HB++H0)) (hd:Nat.blt d n=true)
    (h:∀ v' HB',qQ e s v' (len+m) (xs++news) HB'→W P rd w0 Q n ds (.ops all rest::k) ((d,v')::env) (HB'++H0)) :
    W P rd w0 Q n ds (.ops all (⟨some d,.call ⟨.builtin .append,#[x,y],#[t,t]⟩,ty,pos,aft,none⟩::rest)::k) env H :=
  Jy rfl nofun hd fun a w ha hs=>by
    obtain ⟨v',HB',w',hr,ho',hs'⟩:=qfy (P:=P) (ty:=ty) (c:=cap) ht he hzs hsz ho (hs.hsub hH) hl (fun j x hx=>by
      obtain ⟨b,o,e1,e2⟩:=hnews j x hx
      exact ⟨b,o,e1,e2 w hs⟩) (fun u hu=>List.all_eq_true.1 h1 u hu) h63 hbytes
    refine ⟨v',HB'++H0,w',.inl ?_,hs',h v' HB' ho'⟩
    simp [execOp,resolve,invoke,builtin,ha.opv hx,ha.opv hy,hr,Result.andThen]
theorem Zb {e:TypeId} {s sl bytes bl ln cp:Nat} {z zl:Value} {de:TypeDesc} {l:List Value} {q q':IntKind} {i j:Int} (hx:opv env x=some (.int q i)) (hy:opv env y=some (.int q' j)) (ht:Ty P t (.slice e) sl zl bl) (he:Ty P e de s z bytes)
    (hi:i=(ln:Int)) (hj:j=(cp:Int)) (hlc:ln≤cp) (hb:bytes*cp≤281474976710656) (h63:cp≤maxLen) (hl:(madeCells z.cells (cp*s)).toList=l) (hd:Nat.blt d n=true)
    (h:∀ b:Nat,W P rd w0 Q n ds (.ops all rest::k) ((d,.slice (some ⟨b,0,none⟩) ln cp)::env) ((b,.cells e (cp*s) l)::H)):W P rd w0 Q n ds (.ops all (⟨some d,.makeSlice t x y,ty,pos,aft,none⟩::rest)::k) env H :=
  Jy rfl nofun hd fun a w ha hs=>by
    obtain ⟨inf,hinf,hsize,hz,hby⟩:=he.info
    subst hi hj hsize hby hl
    have hb':(inf.bytes:Int)*(cp:Int)≤281474976710656:=by
      have h:((inf.bytes*cp:Nat):Int)≤281474976710656:=by omega
      rwa [Int.natCast_mul] at h
    have hr:=run_make (P:=P) w t e inf z ht.und hinf hz q q' ln cp (by omega) (by omega) hb' (by simp only [maxLen] at h63; omega)
    simp only [Int.toNat_natCast] at hr
    refine ⟨.slice (some ⟨w.heap.size,0,none⟩) ln cp,_,w.alloc (.cells (madeCells z.cells (cp*inf.size)) e),.inl (by simp [execOp,ha.opv hx,ha.opv hy,hr,Result.andThen]),hs.alloc _ ?_,h w.heap.size⟩
    have:=At.alloc_cells w (madeCells z.cells (cp*inf.size)) e
    rwa [size_madeCells] at this
theorem qk {b i e tot s by_:Nat} {td:TypeDesc} {z:Value} {cs:Array Value} {l l':List Value} {ty:TypeId} (hx:opv env x=some (.pointer (some ⟨b,i,none⟩))) (hy:opv env y=some (.agg cs)) (ht:Ty P t td s z by_) (h1:cs.toList.all Value.oneCell'=true) (hs1:cs.size=s)
    (hm:(b,Blk.cells e tot l)∈H) (hi:i+s≤l.length) (hl:zA l i cs.toList=l') (hu:Upd b (.cells e tot l) (.cells e tot l') H H')
    (h:W P rd w0 Q n ds (.ops all rest::k) env H'):W P rd w0 Q n ds (.ops all (⟨none,.store t x y,ty,pos,aft,none⟩::rest)::k) env H :=
  Jy rfl nofun rfl fun a w ha hs=>by
    subst hl hs1
    obtain ⟨hb,cur,hc,hsz,htk⟩:=hs.own _ hm
    have hlen:l.length≤cur.size:=by
      have:=congrArg List.length htk
      simp only [List.length_take,Array.length_toList] at this
      omega
    have h1':∀ v∈cs.toList,v.oneCell'=true:=fun v hv=>by
      exact List.all_eq_true.1 h1 v hv
    have hst:=run_storeCells_at P b i e cs.toList 0 cur w hc (by simp only [Array.length_toList]; omega) h1'
    simp only [Nat.add_zero,Array.length_toList] at hst
    have hcl:(Value.agg cs).cells=cs:=rfl
    refine ⟨undef,H',_,.inr ⟨?_,rfl⟩,hs.upd hu (Ql (cs:=(List.take i cur.toList++cs.toList++List.drop (i+cs.size) cur.toList).toArray) hb) (fun j hj _=>setRow_other w b j _ hj) ?_,h⟩
    · simp [execOp,ha.opv hx,ha.opv hy,Instr.storeAt,Instr.sureAddr,storeVar,ht.size,hcl,hst,Result.andThen]
    · refine ⟨_,setRow_heap w b cur _ e _ hc,?_,?_⟩
      · simp only [List.size_toArray,List.length_append,List.length_take,List.length_drop,Array.length_toList]
        omega
      · rw [QM (by simpa using hi)]
        show (List.take i cur.toList++cs.toList++List.drop (i+cs.size) cur.toList).take l.length=zA l i cs.toList
        unfold zA
        have e1:l.take i=cur.toList.take i:=by rw [← htk,List.take_take]; congr 1; omega
        have e2:l.drop (i+cs.toList.length)=(cur.toList.drop (i+cs.size)).take (l.length-(i+cs.size)):=by
          rw [Array.length_toList]
          conv=>lhs; rw [← htk]
          rw [List.drop_take]
        rw [e1,e2,List.append_assoc,List.append_assoc,List.take_append,List.take_append]
        congr 1
        · rw [List.take_take]; congr 1; omega
        · congr 1
          · rw [List.take_of_length_le]; simp only [List.length_take,Array.length_toList]; omega
          · congr 1; simp only [List.length_take,Array.length_toList]; omega
end
end Go.Sl
namespace Go.Sl
open Go.RowKit
theorem qt.hsub {P:Program} {w0:World} {f:FuncId} {args:Array Value} {H H':qg} {R:Value→qg→Prop} (h:qt P w0 f args H' R) (hs:qd H H'):qt P w0 f args H R:=fun w hw=>h w (hw.hsub hs)
theorem Sat.putObj {w0 w:World} {H:qg} {b:Nat} {o o':Obj} (h:Sat w0 ((b,.obj o)::H) w):Sat w0 ((b,.obj o')::H) (w.putObj b o') :=
  have hlt:b<w.heap.size:=(h.own _ List.mem_cons_self).2.lt
  have hb:w0.heap.size≤b:=(h.own _ List.mem_cons_self).1
  h.upd (.head H) ⟨rfl,rfl,rfl,by simp,fun k hk=>World.putObj_heap_other (by omega)⟩ (fun j hj _=>World.putObj_heap_other hj) (World.putObj_heap_same hlt)
abbrev mark (D:Nat):Deferred:={ target:=.collected D,args:=#[] }
inductive ZO:List Deferred→qg→qg→Prop
  | nil (H:qg):ZO [] H H
  | cons {D:Nat} {ds:List Deferred} {H H1 H':qg} (h:QK (D,.obj (.deferred (some []))) H H1) (hs:ZO ds H1 H'):ZO (mark D::ds) H H'
theorem zL {P:Program} {w0:World} {fn:Func} {R:Value→qg→Prop} {tmps:Array Value} {v:Value} {ds:List Deferred} {H H' H2:qg} (hM:ZO ds H H') (hu:qd H' H2):∀ {w:World},(∀ w,Sat w0 H' w→(results fn tmps).run P w=.ok v w)→Sat w0 H w→R v H2 →
    LeavesInM Fence.wide 0 P fn tmps (qaU w0 R) ds .returning w:=by
  induction hM with
  | nil H=>exact fun hr hs hR=>⟨v,hr _ hs,v,H2,rfl,hR,hs.hsub hu⟩
  | @cons D ds H H1 H' h _ ih =>
    intro w hr hs hR
    have hs1:=hs.perm h.perm
    exact ⟨by simp,.inl ⟨D,_,rfl,run_takeDeferred (hs1.own _ List.mem_cons_self).2,ih hu hr (hs1.putObj (o':=.deferred none)).drop hR⟩⟩
section
variable {P:Program} {w0:World} {fn:Func} {R:Value→qg→Prop} {n:Nat} {ds:List Deferred} {k:List It} {env:Env} {H H' H2:qg}
theorem zZ (hr:fn.results=#[]) (hM:ZO ds H H') (hu:qd H' H2) (hR:R (.tuple #[]) H2):W P none w0 (YA P w0 fn R) n ds (.code .ret::k) env H :=
  KG fun a w ha hd hs=>by
    show LeavesInM _ _ _ _ _ _ a.defers _ _
    rw [hd]
    exact zL hM hu (fun w _=>qah hr) hs hR
theorem zf (hr:fn.results=#[]) (hM:ZO ds H H') (hu:qd H' H2) (hR:R (.tuple #[]) H2):W P none w0 (YA P w0 fn R) n ds [] env H :=
  fun a w ha hd hs=>by
    show LeavesInM _ _ _ _ _ _ a.defers _ _
    rw [hd]
    exact zL hM hu (fun w _=>qah hr) hs hR
theorem qj {t:Nat} {v:Value} (hr:fn.results=#[.tmp t]) (hv:look env t=some v) (hM:ZO ds H H') (hu:qd H' H2) (hR:R v H2):W P none w0 (YA P w0 fn R) n ds (.code .ret::k) env H :=
  KG fun a w ha hd hs=>by
    show LeavesInM _ _ _ _ _ _ a.defers _ _
    rw [hd]
    exact zL hM hu (fun w _=>qdK hr) hs (by rw [ha.val _ _ hv]; exact hR)
theorem qF {t u:Nat} {v1 v2:Value} (hr:fn.results=#[.tmp t,.tmp u]) (hv:look env t=some v1) (hv2:look env u=some v2) (hM:ZO ds H H') (hu:qd H' H2) (hR:R (.tuple #[v1,v2]) H2):W P none w0 (YA P w0 fn R) n ds (.code .ret::k) env H :=
  KG fun a w ha hd hs=>by
    show LeavesInM _ _ _ _ _ _ a.defers _ _
    rw [hd]
    exact zL hM hu (fun w _=>qdJ hr) hs (by rw [ha.val _ _ hv,ha.val _ _ hv2]; exact hR)
theorem KX {t u s:Nat} {v1 v2 v3:Value} (hr:fn.results=#[.tmp t,.tmp u,.tmp s]) (hv:look env t=some v1) (hv2:look env u=some v2) (hs3:look env s=some v3) (hM:ZO ds H H') (hu:qd H' H2) (hR:R (.tuple #[v1,v2,v3]) H2):W P none w0 (YA P w0 fn R) n ds (.code .ret::k) env H :=
  KG fun a w ha hd hs=>by
    show LeavesInM _ _ _ _ _ _ a.defers _ _
    rw [hd]
    exact zL hM hu (fun w _=>qdI hr) hs (by rw [ha.val _ _ hv,ha.val _ _ hv2,ha.val _ _ hs3]; exact hR)
end
theorem qcL {P:Program} {w0 w:World} {fn:Func} {H:qg} {t ty b i s by_:Nat} {tmps:Array Value} {td:TypeDesc} {z:Value} {vs:List Value} (hr:fn.results=#[.cell t ty]) (hv:tmps.getD t undef=.pointer (some ⟨b,i,none⟩)) (ht:Ty P ty td s z by_) (hf:ZS td=false) (hl:vs.length=s) (hc:zP w0 H b i vs) (hs:Sat w0 H w) :
    (results fn tmps).run P w=.ok (.agg vs.toArray) w:=by
  have hcs:=run_loadCells_list (P:=P) (w:=w) ⟨b,i,none⟩ vs (fun j u hu=>by rw [qx]; exact hc j u hu w hs)
  rw [hl] at hcs
  have hv':tmps[t]?.getD undef=.pointer (some ⟨b,i,none⟩):=by rw [← Array.getD_eq_getD_getElem?]; exact hv
  simp [results,hr,hv',asAddr,loadVar,ht.isAgg,ht.size,hf,hcs,Result.andThen]
section
variable {P:Program} {w0:World} {fn:Func} {R:Value→qg→Prop} {n:Nat} {ds:List Deferred} {k:List It} {env:Env} {H H' H2:qg}
theorem qgO {t ty b i s by_:Nat} {td:TypeDesc} {z:Value} {vs:List Value} (hr:fn.results=#[.cell t ty]) (hv:look env t=some (.pointer (some ⟨b,i,none⟩))) (hM:ZO ds H H') (ht:Ty P ty td s z by_) (hf:ZS td=false) (hl:vs.length=s) (hc:zP w0 H' b i vs) (hu:qd H' H2) (hR:R (.agg vs.toArray) H2):W P none w0 (YA P w0 fn R) n ds (.code .ret::k) env H :=
  KG fun a w ha hd hs=>by
    show LeavesInM _ _ _ _ _ _ a.defers _ _
    rw [hd]
    exact zL hM hu (fun w hs'=>qcL hr (ha.val _ _ hv) ht hf hl hc hs') hs hR
theorem zt {t ty b s e tot by_:Nat} {td:TypeDesc} {z:Value} {vs:List Value} (hr:fn.results=#[.cell t ty]) (hv:look env t=some (.pointer (some ⟨b,0,none⟩))) (hM:ZO ds H H') (ht:Ty P ty td s z by_) (hf:ZS td=false) (hm:(b,Blk.cells e tot vs)∈H') (hl:vs.length=s) (hu:qd H' H2) (hR:R (.agg vs.toArray) H2):W P none w0 (YA P w0 fn R) n ds (.code .ret::k) env H :=
  qgO hr hv hM ht hf hl (zP.own hm (by simp)) hu hR
end
def JR (P:Program) (w0:World) (l:Nat) (args:Array Value) (H:qg) (R:Value→qg→Prop):Prop:=∀ w,Sat w0 H w→YieldAt Fence.wide 0 P l args w (qaU w0 R)
theorem JR.mono {P:Program} {w0:World} {l:Nat} {args:Array Value} {H:qg} {R R':Value→qg→Prop} (h:JR P w0 l args H R) (hr:∀ v H',R v H'→R' v H'):JR P w0 l args H R':=fun w hw=>by
  obtain ⟨fn,tmps,a,b,h1,h2⟩:=h w hw
  exact ⟨fn,tmps,a,b,h1,h2.mono fun _ _ ⟨v,H',e,r,s⟩=>⟨v,H',e,hr _ _ r,s⟩⟩
abbrev Loop.at (r:Loop) (s:LoopState) (p:Option Code):Loop:={ r with state:=s,pending:=p }
theorem XH {r:Loop} (h1:r.state=.ready) (h2:r.pending=none):Loop.at r .ready none=r:=by cases r; simp_all [Loop.at]
def KZ (P:Program) (w0:World) (l:Nat) (r:Loop) (R:Value→qg→Prop):Exit→Act→World→Prop
  | .normal,_,w=>∃ H,Sat w0 ((l,.obj (.loop (Loop.at r .busy none)))::H) w∧R (.bool true) ((l,.obj (.loop (Loop.at r .ready none)))::H)
  | .ret,_,w=>∃ H,Sat w0 ((l,.obj (.loop (Loop.at r .busy none)))::H) w∧R (.bool false) ((l,.obj (.loop (Loop.at r .done (some .ret))))::H)
  | .exit id,_,w=>∃ H,Sat w0 ((l,.obj (.loop (Loop.at r .busy none)))::H) w∧R (.bool false) ((l,.obj (.loop (Loop.at r .done (some (.exit id)))))::H)
  | .goto t,_,w=>∃ H,Sat w0 ((l,.obj (.loop (Loop.at r .busy none)))::H) w∧R (.bool false) ((l,.obj (.loop (Loop.at r .done (some (.goto t)))))::H)
  | .panic _,_,_=>False
  | .outgrown,_,_=>False
theorem KM {P:Program} {w0:World} {l:Nat} {r:Loop} {R:Value→qg→Prop} {e:Exit} {a:Act} {w:World} (h:KZ P w0 l r R e a w):roundPost P l (qaU w0 R) e a w:=by
  have go:∀ (j:Option Code) (H:qg),Sat w0 ((l,.obj (.loop (Loop.at r .busy none)))::H) w→R (.bool j.isNone) ((l,.obj (.loop (Loop.at r (if j.isNone then .ready else .done) j)))::H)→∃ v w',(Instr.endRound l j).run P w=.ok v w'∧qaU w0 R (.returned v) w':=fun j H hs hR =>
    ⟨_,_,run_endRound j (hs.own _ List.mem_cons_self).2,_,_,rfl,hR,hs.putObj⟩
  cases e with
  | normal=>obtain ⟨H,hs,hR⟩:=h; exact go none H hs hR
  | ret=>obtain ⟨H,hs,hR⟩:=h; exact go (some .ret) H hs hR
  | exit id=>obtain ⟨H,hs,hR⟩:=h; exact go (some (.exit id)) H hs hR
  | goto t=>obtain ⟨H,hs,hR⟩:=h; exact go (some (.goto t)) H hs hR
  | panic c=>exact h.elim
  | outgrown=>exact h.elim
def KR:List Nat→List Value→Env→Env
  | p::ps,v::vs,env=>KR ps vs ((p,v)::env)
  | _,_,env=>env
theorem Yr {n:Nat}:∀ (ps:List Nat) (vs:List Value) (env:Env) (a:Act),qL n env a→ps.all (fun p=>Nat.blt p n)=true→qL n (KR ps vs env) { a with tmps:=(ps.zip vs).foldl (fun t (p,v)=>t.setIfInBounds p v) a.tmps }
  | [],_,_,_,h,_=>h
  | _::_,[],_,_,h,_=>h
  | p::ps,v::vs,env,a,h,hp=>by
    simp only [List.all_cons,Bool.and_eq_true] at hp
    have h1:qL n ((p,v)::env) (a.put (some p) v):=h.put (d:=some p) (by simpa [dok] using hp.1)
    have h2:=Yr ps vs ((p,v)::env) (a.put (some p) v) h1 hp.2
    simpa [KR,Act.put] using h2
def qeX (P:Program) (w0:World) (l:Nat) (r:Loop) (R:Value→qg→Prop) (a:Act) (w:World):Prop :=
  ∃ w₂,(Instr.beginRound l).run P w=.ok () w₂∧r.body.wpIn (fen (some l)) 0 P (KZ P w0 l r R) a w₂
theorem YZ {P:Program} {w0:World} {l:Nat} {r:Loop} {args:Array Value} {H H1:qg} {R:Value→qg→Prop} {n:Nat} {env env':Env} {vs:List Value} {ps:List Nat} {ca:Code} (hst:r.state=.ready) (hp:r.pending=none)
    (hA:qL n env { tmps:=r.tmps,defers:=[] }) (hps:r.params=ps.toArray) (hvs:args=vs.toArray) (hca:r.assign=ca) (hlen:vs.length=ps.length) (hn:ps.all (fun p=>Nat.blt p n)=true) (he:KR ps vs env=env') (hT:QK (l,.obj (.loop r)) H H1)
    (h:W P (some l) w0 (fun _ _ _=>False) n [] [.code ca,.goal (qeX P w0 l r R)] env' H):JR P w0 l args H R:=by
  intro w hs
  have hl:w.heap[l]?=some (.loop r):=(hs.own _ hT.mem).2
  have hy:=run_yield (P:=P) (args:=args) hl (by rw [hps,hvs]; simpa using hlen)
  refine ⟨_,_,_,_,hy,roundIn_of_wpIn (F:=Fence.wide) trivial ?_⟩
  have hA':=Yr ps vs env _ hA hn
  rw [he] at hA'
  have hW:=h _ w (by
    have e1:({ tmps:=((r.params.zip args).foldl (fun t (x:Nat × Value)=>t.setIfInBounds x.1 x.2) r.tmps),defers:=[] }:Act)={ tmps:=(ps.zip vs).foldl (fun t (x:Nat × Value)=>t.setIfInBounds x.1 x.2) r.tmps,defers:=[] }:=by
      rw [hps,hvs]; simp
    exact e1 ▸ hA') rfl hs
  subst hca
  refine wpIn_mono hW fun e a2 w2 hq=>?_
  cases e with
  | normal =>
    obtain ⟨w3,h1,h2⟩:=hq
    exact ⟨w3,h1,wpIn_mono h2 fun _ _ _ hq=>KM hq⟩
  | exit id=>exact hq
  | goto l=>exact hq
  | ret=>exact hq
  | panic ch=>exact hq
  | outgrown=>exact hq.elim
section
variable {P:Program} {rd:Option Nat} {w0:World} {Q:Exit→Act→World→Prop} {n:Nat} {ds:List Deferred} {k:List It} {env env':Env} {H H1 H':qg} {all:Array Oper} {rest:List Oper}
theorem qcw {l:Nat} {r:Loop} {R:Value→qg→Prop} {cb:Code} (hst:r.state=.ready) (hp:r.pending=none) (hT:QK (l,.obj (.loop r)) H H1) (hcb:r.body=cb)
    (h:W P (some l) w0 (KZ P w0 l r R) n ds [.code cb] env ((l,.obj (.loop (Loop.at r .busy none)))::H1)):W P (some l) w0 (fun _ _ _=>False) n ds [.goal (qeX P w0 l r R)] env H:=by
  refine YP fun a w ha hd hs=>?_
  have hs1:=hs.perm hT.perm
  refine ⟨_,run_beginRound (hs1.own _ List.mem_cons_self).2 hst,?_⟩
  subst hcb
  have e:({ r with state:=.busy }:Loop)=Loop.at r .busy none:=by rw [← hp]
  rw [e]
  refine wpIn_mono (h a _ ha hd hs1.putObj) fun e a2 w2 hq=>?_
  cases e <;> exact hq
theorem JQ {l:Nat} {r:Loop} {R:Value→qg→Prop} (hT:QK (l,.obj (.loop (Loop.at r .busy none))) H H1) (hR:R (.bool true) ((l,.obj (.loop (Loop.at r .ready none)))::H1)):W P (some l) w0 (KZ P w0 l r R) n ds [] env H :=
  fun _ _ _ _ hs=>⟨H1,hs.perm hT.perm,hR⟩
theorem zx {d:Option Nat} {x:Operand} {l:List Operand} {vs:List Value} {lp:Nat} {tys:Array TypeId} {t:TypeId} {pos:String} {aft:Array Edge} {R:Value→qg→Prop} (hx:opv env x=some (.func (.yield lp) #[] #[])) (hc:Zk env l vs) (hd:dok n d=true)
    (hL:JR P w0 lp vs.toArray H R) (h:∀ v H',R v H'→W P rd w0 Q n ds (.ops all rest::k) (put d v env) H') :
    W P rd w0 Q n ds (.ops all (⟨d,.call ⟨.value x,l.toArray,tys⟩,t,pos,aft,none⟩::rest)::k) env H:=by
  intro a w ha hds hs
  show wpListIn (fen rd) 0 P all (zC P rd Q k) (⟨d,.call ⟨.value x,l.toArray,tys⟩,t,pos,aft,none⟩::rest) a w
  unfold wpListIn
  rw [if_pos (by simp [Region.wanted])]
  refine ⟨fun _ _=>trivial,?_⟩
  obtain ⟨fn,tmps,asg,body,hy,hrd⟩:=hL w hs
  have hl:l.map a.eval=vs:=ha.opvs hc
  rw [Oper.semAt_eq _ _ _ (fun _ h=>by cases h),show (execOp a.eval ⟨d,.call ⟨.value x,l.toArray,tys⟩,t,pos,aft,none⟩).run P w=.ok (.round lp fn tmps asg body) w by
    simp [execOp,resolve,ha.opv hx,Deferred.ofValue,invoke,hl,hy,Result.andThen],Oper.uponIn_round]
  refine ⟨fun h=>by simp [Fence.wide] at h,?_⟩
  have hrd':RoundIn (fen rd) 0 P lp fn tmps asg body w _:=hrd
  refine hrd'.mono ?_
  rintro e w' ⟨v,H',rfl,hR,hs'⟩
  exact h v H' hR (a.put d v) w' (ha.put hd) (by cases d <;> exact hds) hs'
theorem Xb {g:Operand} {ps:Array Nat} {assign body:Code} {gf:FuncId} {lb:Array Value} (hg:opv env g=some (.func (.func gf) #[] lb)) (eg:∀ (args:Array Value) (w:World),(callFunc gf args).run P w=.ok (.enter gf args) w)
    (hcall:∀ (l D:Nat) (r:Loop),r.state=.ready→r.pending=none→r.params=ps→r.assign=assign→r.body=body→qL n env { tmps:=r.tmps,defers:=[] } →
      qt P w0 gf (#[.func (.yield l) #[] #[]]++lb) ((l,.obj (.loop r))::(D,.obj (.deferred (some [])))::H)
        (fun _ H'=>∃ st pend H1,qd H' ((l,.obj (.loop (Loop.at r st pend)))::H1)∧st≠.busy∧W P none w0 Q n (mark D::ds) (match pend with | none=>k | some c=>.code c::k) env H1)) :
    W P none w0 Q n ds (.code (.rangeFunc g ps assign body)::k) env H:=by
  intro a w ha hd hs
  show (Code.rangeFunc g ps assign body).wpIn (fen none) 0 P (zC P none Q k) a w
  refine wpIn_rangeFunc fun fn _=>?_
  have hs1:Sat w0 ((w.heap.size,.obj (.deferred (some [])))::H) (w.alloc (.deferred (some []))):=hs.alloc _ (At.alloc_obj _ _)
  have hs2:=hs1.alloc (.loop { state:=.ready,pending:=none,fn,tmps:=a.tmps,params:=ps,assign,body,defers:=w.heap.size }) (At.alloc_obj _ _)
  rw [World.size_alloc] at hs2
  have hent:=run_enterLoop_outer (P:=P) (w:=w) fn a.tmps ps assign body
  generalize hW1:(w.alloc (.deferred (some []))).alloc (.loop { state:=.ready,pending:=none,fn,tmps:=a.tmps,params:=ps,assign,body,defers:=w.heap.size })=W1 at hs2 hent
  refine ⟨w.heap.size+1,[mark w.heap.size],W1,{ target:=.fn (.func gf) lb,args:=#[.func (.yield (w.heap.size+1)) #[] #[]] },W1,gf,#[.func (.yield (w.heap.size+1)) #[] #[]]++lb,W1,hent,?_,fun _ _=>trivial,?_,fun h=>by simp [Fence.wide] at h,?_⟩
  · have hev:∀ v,a.eval (.const v)=v:=fun _=>rfl
    simp [resolve,ha.opv hg,hev,Deferred.ofValue,Result.andThen]
  · simp [invoke,eg,Result.andThen]
  · have hc:CallsIn (fen none) 0 P gf _ _ _:=hcall (w.heap.size+1) w.heap.size { state:=.ready,pending:=none,fn,tmps:=a.tmps,params:=ps,assign,body,defers:=w.heap.size } rfl rfl rfl rfl rfl ⟨ha.size,ha.val⟩ _ hs2
    refine hc.mono ?_
    rintro e w' ⟨v,H',rfl,⟨st,pend,H1,hT,hst,hW⟩,hs'⟩
    have hs3:=hs'.hsub hT
    have hag:qL n env { a with defers:=mark w.heap.size::a.defers }:=⟨ha.size,ha.val⟩
    refine ⟨pend,_,run_endLoop (hs3.own _ List.mem_cons_self).2 hst,?_⟩
    cases pend with
    | none=>exact hW { a with defers:=mark w.heap.size::a.defers } _ hag (by rw [hd]) (hs3.putObj (o':=.loop { Loop.at _ st none with state:=.exhausted })).drop
    | some c =>
      refine wpIn_mono (hW { a with defers:=mark w.heap.size::a.defers } _ hag (by rw [hd]) (hs3.putObj (o':=.loop { Loop.at _ st (some c) with state:=.exhausted })).drop) fun e a2 w2 hq=>?_
      cases e <;> exact hq
theorem ZH {X:Type} {c:Code} (E:X→Env) (DS:X→List Deferred) (HH:X→qg) (I:X→Prop) (μ:X→Nat) (x0:X) (h0:I x0) (he:sub (E x0) env) (hd0:ds=DS x0) (hh:qd H (HH x0))
    (round:∀ x,I x→W P rd w0 Q n (DS x) (.code c::.goal (fun a w=>∃ x',I x'∧μ x' < μ x∧qL n (E x') a∧a.defers=DS x'∧Sat w0 (HH x') w)::k) (E x) (HH x)) :
    W P rd w0 Q n ds (.code (.loop c)::k) env H:=by
  intro a w ha hd hs
  subst hd0
  refine wpIn_loop_ghost (fun m a' w'=>∃ x,μ x=m∧I x∧qL n (E x) a'∧a'.defers=DS x∧Sat w0 (HH x) w') (μ x0) ⟨x0,rfl,h0,ha.weaken (Z7 he),hd,hs.hsub hh⟩ ?_
  rintro m a' w' ⟨x,rfl,hI,hA,hD,hS⟩
  refine wpIn_mono (round x hI a' w' hA hD hS) fun e a2 w2 hq=>?_
  cases e with
  | normal =>
    obtain ⟨x',h1,h2,h3,h4,h5⟩:=hq
    exact ⟨μ x',h2,x',rfl,h1,h3,h4,h5⟩
  | exit id=>exact hq
  | goto l=>exact hq
  | ret=>exact hq
  | panic ch=>exact hq
  | outgrown=>exact hq
theorem qW {X:Type} {E:X→Env} {DS:X→List Deferred} {HH:X→qg} {I:X→Prop} {μ:X→Nat} {m:Nat} (x':X) (h1:I x') (h2:μ x'<m) (he:sub (E x') env) (hd:ds=DS x') (hh:qd H (HH x')) :
    W P rd w0 Q n ds (.goal (fun a w=>∃ x',I x'∧μ x'<m∧qL n (E x') a∧a.defers=DS x'∧Sat w0 (HH x') w)::k) env H :=
  YP fun _ _ ha hd' hs=>⟨x',h1,h2,ha.weaken (Z7 he),hd'.trans hd,hs.hsub hh⟩
end
end Go.Sl
namespace Go.Sl
open Go.RowKit
def Ex (P:Program) (n:Nat) (env:Env) (C:World→Prop) (op:Op) (ty:TypeId) (v:Value):Prop :=
  ∀ a w (d:Option Nat) (pos:String) (aft:Array Edge) (g:Option (Nat × Bool)),qL n env a→C w→(execOp a.eval ⟨d,op,ty,pos,aft,g⟩).run P w=.ok (.value v) w
section
variable {P:Program} {w0:World} {n:Nat} {env:Env} {H:qg} {x y c:Operand} {t u ty:TypeId} {v:Value} {tys:Array TypeId} {q q':IntKind} {i j:Int} {r:Value}
theorem Jg (hx:opv env x=some v) {C:World→Prop}:Ex P n env C (.move x) t (v):=fun a w d pos aft g ha _=>by simp [execOp,ha.opv hx]
theorem qfb (hx:opv env x=some v) {C:World→Prop}:Ex P n env C (.assign x) t (v):=fun a w d pos aft g ha _=>by simp [execOp,ha.opv hx]
theorem zX (hc:opv env c=some (.bool true)) (hx:opv env x=some v) {C:World→Prop}:Ex P n env C (.pick c x y) t (v):=fun a w d pos aft g ha _=>by simp [execOp,ha.opv hc,asBool,ha.opv hx,Result.andThen]
theorem zY (hc:opv env c=some (.bool false)) (hx:opv env y=some v) {C:World→Prop}:Ex P n env C (.pick c x y) t (v):=fun a w d pos aft g ha _=>by simp [execOp,ha.opv hc,asBool,ha.opv hx,Result.andThen]
theorem Qo {op:BinOp} (hx:opv env x=some (.int q i)) (hy:opv env y=some (.int q' j)) (hop:∀ P w,(Go.binOp op t (.int q i) (.int q' j)).run P w=.ok r w) {C:World→Prop}:Ex P n env C (.binOp op t x y u) ty (r):=fun a w d pos aft g ha _=>by
    have he:(eqGuard op t x y (.int q i) (.int q' j)).run P w=.ok () w:=by
      unfold eqGuard; cases op <;> simp
    simp [execOp,ha.opv hx,ha.opv hy,he,hop,Result.andThen]
theorem X_not {b:Bool} (hx:opv env x=some (.bool b)) {C:World→Prop}:Ex P n env C (.unOp .not t x) ty (.bool (!b)):=fun a w d pos aft g ha _=>by simp [execOp,ha.opv hx,Op.unary]
theorem Qn {m:Int} {td:TypeDesc} {s1 s2 by1 by2:Nat} {z1 z2:Value} (hx:opv env x=some (.int q i)) (ht:Ty P t td s1 z1 by1) (hu:Ty P u (.int q') s2 z2 by2) (hm:q'.wrap i=m) {C:World→Prop}:Ex P n env C (.convert t u x) ty (.int q' m):=fun a w d pos aft g ha _=>by simp [execOp,ha.opv hx,convert,ht.run,hu.run,Conv.intToInt,hm]
theorem qhq {b c:Bool} {s1 by1:Nat} {z1:Value} (hx:opv env x=some (.bool b)) (hy:opv env y=some (.bool c)) (ht:Ty P t .bool s1 z1 by1) {C:World→Prop}:Ex P n env C (.binOp .eql t x y u) ty (.bool (b == c)):=fun a w d pos aft g ha _=>by
    have he:(eqGuard .eql t x y (.bool b) (.bool c)).run P w=.ok () w:=by simp [eqGuard]
    simp [execOp,ha.opv hx,ha.opv hy,he,Go.binOp,qbZ ht,Result.andThen]
theorem qdl {vs:Array Value} {i:Nat} {ty:TypeId} (hx:opv env x=some (.tuple vs)) (hv:vs[i]?=some v) {C:World→Prop}:Ex P n env C (.extract x i) ty (v):=fun a w d pos aft g ha _=>by simp [execOp,ha.opv hx,Instr.extract,hv]
theorem qZ {b i s by_:Nat} {td:TypeDesc} {z:Value} {ty:TypeId} (hx:opv env x=some (.pointer (some ⟨b,i,none⟩))) (ht:Ty P t td s z by_) (hf:ZS td=true) (hc:qh w0 H b i v):Ex P n env (Sat w0 H) (.load t x) ty (v):=fun a w d pos aft g ha hs=>by
    simp [execOp,ha.opv hx,Instr.loadAt,Instr.sureAddr,loadVar,ht.isAgg,hf,hc w hs,Result.andThen]
theorem Ys {b i s by_:Nat} {td:TypeDesc} {z:Value} {vs:List Value} {ty:TypeId} (hx:opv env x=some (.pointer (some ⟨b,i,none⟩))) (ht:Ty P t td s z by_) (hf:ZS td=false) (hl:vs.length=s) (hc:zP w0 H b i vs):Ex P n env (Sat w0 H) (.load t x) ty (.agg vs.toArray):=fun a w d pos aft g ha hs=>by
    have hcs:=run_loadCells_list (P:=P) (w:=w) ⟨b,i,none⟩ vs (fun j u hu=>by rw [qx]; exact hc j u hu w hs)
    rw [hl] at hcs
    simp [execOp,ha.opv hx,Instr.loadAt,Instr.sureAddr,loadVar,ht.isAgg,ht.size,hf,hcs,Result.andThen]
theorem QB {b i f off s:Nat} {ag:Bool} {ty:TypeId} (hx:opv env x=some (.pointer (some ⟨b,i,none⟩))) (hf:Fld P t f off s ag) (h0:s≠0) {C:World→Prop}:Ex P n env C (.fieldAddr t x f) ty (.pointer (some ⟨b,i+off,none⟩)):=fun a w d pos aft g ha _=>by
    obtain ⟨fs,fd,h1,h2,rfl,td,z,b',hT,hfl⟩:=hf.is
    simp [execOp,ha.opv hx,Instr.fieldAt,run_underlying h1,h2,Instr.sureAddr,fieldPlace,hT.size,h0,Result.andThen,qx]
theorem QT {a:Addr} {ty:TypeId} (hx:opv env x=some (.pointer (some a))) {C:World→Prop}:Ex P n env C (.nilCheck x) ty (.pointer (some a)):=fun a w d pos aft g ha _=>by simp [execOp,ha.opv hx]
theorem qaK {fn:Nat} {fa ca:Array Value} {ty:TypeId} (hx:opv env x=some (.func (.func fn) fa ca)) {C:World→Prop}:Ex P n env C (.nilCheck x) ty (.func (.func fn) fa ca):=fun a w d pos aft g ha _=>by simp [execOp,ha.opv hx]
theorem qaL {ad:Option Addr} {len cap s by_:Nat} {e:TypeId} {z:Value} {m:Int} (hx:opv env x=some (.slice ad len cap)) (ht:Ty P t (.slice e) s z by_) (hm:(len:Int)=m) {C:World→Prop}:Ex P n env C (.call ⟨.builtin .len,#[x],#[t]⟩) ty (.int .i64 m):=fun a w d pos aft g ha _=>by simp [execOp,resolve,invoke,builtin,Builtin.len_,ha.opv hx,ht.run,goInt,Result.andThen,hm]
theorem qV {b o len cap j s es by_ eb:Nat} {q:IntKind} {i:Int} {e:TypeId} {z ez:Value} {ed:TypeDesc} (hx:opv env x=some (.slice (some ⟨b,o,none⟩) len cap)) (hy:opv env y=some (.int q i)) (ht:Ty P t (.slice e) s z by_) (he:Ty P e ed es ez eb)
    (hi:i=(j:Int)) (hj:j<len) {at_:Nat} (hat:o+j*es=at_) {C:World→Prop}:Ex P n env C (.indexAddr t x y) ty (.pointer (some ⟨b,at_,none⟩)):=fun a w d pos aft g ha _=>by
    subst hi hat
    simp [execOp,Instr.indexAt,ha.opv hx,ha.opv hy,asIntOf,ht.run,he.size,hj,qx,Result.andThen]
theorem ZG {b o len j s es by_ eb:Nat} {q:IntKind} {i:Int} {e:TypeId} {z ez:Value} {ed:TypeDesc} (hx:opv env x=some (.pointer (some ⟨b,o,none⟩))) (hy:opv env y=some (.int q i)) (ht:Ty P t (.array len e) s z by_) (he:Ty P e ed es ez eb)
    (hi:i=(j:Int)) (hj:j<len) {at_:Nat} (hat:o+j*es=at_) {C:World→Prop}:Ex P n env C (.indexAddr t x y) ty (.pointer (some ⟨b,at_,none⟩)):=fun a w d pos aft g ha _=>by
    subst hi hat
    simp [execOp,Instr.indexAt,ha.opv hx,ha.opv hy,asIntOf,ht.run,he.size,hj,qx,Instr.sureAddr,Result.andThen]
theorem qfa {b:ByteArray} {j s by_:Nat} {q:IntKind} {i:Int} {z:Value} {r:UInt8} {m:Int} (hx:opv env x=some (.string b)) (hy:opv env y=some (.int q i)) (ht:Ty P t .string s z by_) (hi:i=(j:Int)) (hr:b[j]?=some r) (hm:(r.toNat:Int)=m) {C:World→Prop}:Ex P n env C (.index t x y) ty (.int .u8 m):=fun a w d pos aft g ha _=>by
    subst hi hm
    simp [execOp,Instr.index,ha.opv hx,ha.opv hy,asIntOf,ht.run,hr,Result.andThen]
end
section
variable {P:Program} {w0:World} {Q:Exit→Act→World→Prop} {n:Nat} {ds:List Deferred} {k:List It} {env env':Env} {H H':qg} {ops:Array Oper}
def Q0 (P:Program) (Q:Exit→Act→World→Prop) (k:List It):Exit→Act→World→Prop
  | .normal,a,w=>zC P none Q k .normal a w
  | _,_,_=>False
theorem qfk {e:Exit} {a:Act} {w:World} (h:Q0 P Q k e a w):zC P none Q k e a w:=by cases e <;> first | exact h | exact h.elim
def WQ (P:Program) (w0:World) (Q:Exit→Act→World→Prop) (n:Nat) (ds:List Deferred) (k:List It) (ops:Array Oper) (l:List Oper) (env:Env) (H:qg):Prop :=
  ∀ a,qL n env a→a.defers=ds→wpQuietIn (fen none) 0 P ops (Sat w0 H) (fun a'=>∀ w',Sat w0 H w'→zC P none Q k .normal a' w') l a
theorem qgP {id:Nat} {l:List Oper} (hm:P.follows .mixedOrders=true) (hB:Region.lexB .any l.toArray=true) (h:WQ P w0 Q n ds k l.toArray l env H):W P none w0 Q n ds (.code (.region id l.toArray true)::k) env H:=by
  intro a w ha hd hs
  show (Code.region id l.toArray true).wpIn (fen none) 0 P (zC P none Q k) a w
  exact wpIn_region_quiet (C:=Sat w0 H) rfl hm hB hs.drew (by simpa using h a ha hd)
theorem z9 {id:Nat} {l:List Oper} {y:Code} (hm:P.follows .mixedOrders=true) (hB:Region.lexB .any l.toArray=true) (h:WQ P w0 Q n ds (.code y::k) l.toArray l env H):W P none w0 Q n ds (.code (.seq (.region id l.toArray true) y)::k) env H :=
  qcs (qgP hm hB h)
theorem ZI (h:W P none w0 Q n ds k env H):WQ P w0 Q n ds k ops [] env H:=fun a ha hd=>fun w' hs=>h a w' ha hd hs
theorem qE {op:Op} {ty:TypeId} {v:Value} {d:Nat} {pos:String} {aft:Array Edge} {rest:List Oper} (hx:Ex P n env (Sat w0 H) op ty v) (hd:Nat.blt d n=true) (h:WQ P w0 Q n ds k ops rest ((d,v)::env) H) :
    WQ P w0 Q n ds k ops (⟨some d,op,ty,pos,aft,none⟩::rest) env H:=fun a ha hds=>by
  refine ⟨fun _ _ _ _=>trivial,?_⟩
  rw [if_pos (by simp [Region.wanted])]
  exact ⟨v,fun w hs=>by
    unfold Oper.quietAtIn
    rw [hx a w (some d) pos aft none ha hs]
    exact ⟨rfl,rfl⟩,h _ (ha.put (d:=some d) hd) hds⟩
theorem Yw {f:FuncId} {l:List Operand} {vs:List Value} {d:Option Nat} {ty:TypeId} {v:Value} {pos:String} {aft:Array Edge} {rest:List Oper} {tys:Array TypeId} (hc:Zk env l vs) (hf:∀ (args:Array Value) (w:World),(callFunc f args).run P w=.ok (.enter f args) w) (hd:dok n d=true)
    {T:World→Prop} (hT:T w0) (hL:Qc P T f vs v) (h:WQ P w0 Q n ds k ops rest (put d v env) H) :
    WQ P w0 Q n ds k ops (⟨d,.call ⟨.value (.func f),l.toArray,tys⟩,ty,pos,aft,none⟩::rest) env H:=fun a ha hds=>by
  refine ⟨fun _ _ _ _=>trivial,?_⟩
  rw [if_pos (by simp [Region.wanted])]
  refine ⟨v,fun w hs=>?_,h _ (ha.put hd) (by cases d <;> exact hds)⟩
  unfold Oper.quietAtIn
  have hl:l.map a.eval=vs:=ha.opvs hc
  rw [show (execOp a.eval ⟨d,.call ⟨.value (.func f),l.toArray,tys⟩,ty,pos,aft,none⟩).run P w=.ok (.enter f vs.toArray) w by
    simp [execOp,resolve,Act.eval,Deferred.ofValue,invoke,hl,hf,Result.andThen]]
  refine ⟨rfl,fun h=>by simp [Fence.wide] at h,?_⟩
  have hcl:CallsIn (fen none) 0 P f vs.toArray w _:=hL w0 H hT w hs
  exact hcl.mono fun e w'' ⟨v',H',he,⟨hv,hH⟩,hs'⟩=>⟨by rw [he,hv],by rw [← hH]; exact hs'⟩
theorem qgW {d:Option Nat} {op:Op} {t:TypeId} {pos:String} {aft:Array Edge} {j:Nat} {b:Bool} {dj:Nat} {rest:List Oper} (hj:(ops[j]?).bind (·.dst)=some dj) (ht:look env dj=some (.bool b))
    (h:WQ P w0 Q n ds k ops (⟨d,op,t,pos,aft,none⟩::rest) env H):WQ P w0 Q n ds k ops (⟨d,op,t,pos,aft,some (j,b)⟩::rest) env H:=fun a ha hds=>by
  obtain ⟨h1,h2⟩:=h a ha hds
  rw [if_pos (by simp [Region.wanted])] at h2
  refine ⟨h1,?_⟩
  have hy:=ha.yielded hj ht
  rw [if_pos (by simp [Region.wanted,hy])]
  exact h2
theorem qic {d:Option Nat} {op:Op} {t:TypeId} {pos:String} {aft:Array Edge} {j:Nat} {b b':Bool} {dj:Nat} {rest:List Oper} (hj:(ops[j]?).bind (·.dst)=some dj) (ht:look env dj=some (.bool b')) (hb:(b' == b)=false) (hd:dok n d=true)
    (h:WQ P w0 Q n ds k ops rest (put d undef env) H):WQ P w0 Q n ds k ops (⟨d,op,t,pos,aft,some (j,b)⟩::rest) env H:=fun a ha hds=>by
  refine ⟨fun _ _ _ _=>trivial,?_⟩
  have hy:=ha.yielded hj ht
  rw [if_neg (by simp only [Region.wanted,hy]; simpa using hb)]
  exact h _ (ha.put hd) (by cases d <;> exact hds)
def WA (P:Program) (w0:World) (Q:Exit→Act→World→Prop) (n:Nat) (ds:List Deferred) (k:List It) (ops:Array Oper) (fuel:Nat) (listed:Array Bool) (env:Env) (H:qg):Prop :=
  ∀ a w,qL n env a→a.defers=ds→Sat w0 H w→wpAnyIn (fen none) 0 P .any ops (Q0 P Q k) fuel listed a w
theorem W_any {id:Nat} {l:List Oper} (hm:P.follows .mixedOrders=true) (h:WA P w0 Q n ds k l.toArray l.length (Array.replicate l.length false) env H):W P none w0 Q n ds (.code (.region id l.toArray true)::k) env H:=by
  intro a w ha hd hs
  show (Code.region id l.toArray true).wpIn (fen none) 0 P (zC P none Q k) a w
  exact wpIn_mono (wpIn_region_any hm (by simpa using h a _ ha hd hs.drew)) fun _ _ _=>qfk
theorem qgX {fuel:Nat} {listed:Array Bool} (hr:Region.ready .any ops listed=[]) (h:W P none w0 Q n ds k env H):WA P w0 Q n ds k ops fuel listed env H:=fun a w ha hd hs=>wpAnyIn_done hr (show Q0 P Q k .normal a w from h a w ha hd hs) fuel
theorem ZJ (i:Nat) {op:Op} {ty:TypeId} {v:Value} {d:Nat} {pos:String} {aft:Array Edge} {fuel:Nat} {listed l':Array Bool} (hi:ops[i]?=some ⟨some d,op,ty,pos,aft,none⟩) (hs:Region.noSelect ops=true) (hf:Region.free .any ops listed i=true) (hr:(Region.ready .any ops listed).contains i=true)
    (hcall:∀ c,op≠.call c) (hdef:∀ c,op≠.defer c) (hl:listed.setIfInBounds i true=l') (hx:Ex P n env (fun _=>True) op ty v) (hd:Nat.blt d n=true)
    (h:WA P w0 Q n ds k ops fuel l' ((d,v)::env) H):WA P w0 Q n ds k ops (fuel+1) listed env H:=fun a w ha hds hsat=>by
  subst hl
  refine wpAnyIn_take rfl hi hs hf hr (fun _ _ _ hq=>hq.elim) ⟨.inl ⟨by simp [Region.wanted],fun w=>hx a w _ _ _ _ ha trivial⟩,fun w=>?_⟩ (h _ w (ha.put (d:=some d) hd) hds hsat)
  unfold Oper.about
  cases op <;> first | rfl | exact absurd rfl (hcall _) | exact absurd rfl (hdef _)
theorem YR (i:Nat) {o:Oper} {fuel:Nat} {listed l':Array Bool} (hr:Region.ready .any ops listed=[i]) (hi:ops[i]?=some o) (hl:listed.setIfInBounds i true=l') (hdef:∀ c,o.op≠.defer c)
    (h:W P none w0 (fun _ _ _=>False) n ds [.ops ops [o],.goal (fun a w=>wpAnyIn (fen none) 0 P .any ops (Q0 P Q k) fuel l' a w)] env H):WA P w0 Q n ds k ops (fuel+1) listed env H:=fun a w ha hds hsat=>by
  subst hl
  refine wpAnyIn_all hr (by simp) fun j hj=>?_
  obtain rfl:j=i:=by simpa using hj
  have h1:wpListIn (fen none) 0 P ops _ [o] a w:=h a w ha hds hsat
  unfold wpOpIn
  rw [hi]
  unfold wpListIn at h1
  show if _ then _ else _
  split
  · rename_i hw
    rw [if_pos hw] at h1
    unfold Oper.wpIn
    refine ⟨h1.1,?_⟩
    have h2:=h1.2
    generalize (o.semAt (fen none).round a.eval).run P w=r at h2 ⊢
    cases r with
    | ok x w' =>
      cases x <;> simp only [Oper.uponIn] at h2 ⊢ <;>
        first
          | exact h2
          | exact ⟨h2.1,CallsIn.mono h2.2 (fun e w'' he=>by cases e <;> first | exact he | exact he.elim | (obtain ⟨_,_,hf⟩:=he; exact hf.elim))⟩
          | exact ⟨h2.1,RowsIn.mono h2.2 (fun _ _ he=>he)⟩
          | exact ⟨h2.1,RoundIn.mono h2.2 (fun e w'' he=>by cases e <;> first | exact he | exact he.elim | (obtain ⟨_,_,hf⟩:=he; exact hf.elim))⟩
    | halt x w'=>cases x <;> simp only [Oper.uponIn] at h2 ⊢ <;> first | exact h2 | exact h2.elim
  · rename_i hw
    rw [if_neg hw] at h1
    exact h1
theorem Jn {fuel:Nat} {l':Array Bool} {k':List It} {Q':Exit→Act→World→Prop} (h:WA P w0 Q n ds k ops fuel l' env H):W P none w0 Q' n ds (.goal (fun a w=>wpAnyIn (fen none) 0 P .any ops (Q0 P Q k) fuel l' a w)::k') env H :=
  YP fun a w ha hd hs=>h a w ha hd hs
end
end Go.Sl
namespace Go.Sl
open Go.RowKit
def EqV (P:Program) (t:TypeId) (x y:Value) (b:Bool):Prop:=∀ d w,(Op.equalIn (d+1) t x y).run P w=.ok b w
section
variable {P:Program} {t:TypeId} {s by_:Nat} {z:Value}
theorem qgz {k:IntKind} {a b:Int} (ht:Ty P t (.int k) s z by_):EqV P t (.int k a) (.int k b) (decide (a=b)):=fun d w=>by
  rw [run_equalIn_int w d t k k a b ht.und]; rfl
theorem Jb {a b:Bool} (ht:Ty P t .bool s z by_):EqV P t (.bool a) (.bool b) (a == b):=fun d w=>run_equalIn_bool w d t a b ht.und
theorem qbw {a b:ByteArray} (ht:Ty P t .string s z by_):EqV P t (.string a) (.string b) (a.toList == b.toList):=fun d w=>run_equalIn_string w d t a b ht.und
inductive qbS (P:Program) (xs ys:Array Value):List Field→Bool→Prop
  | nil:qbS P xs ys [] true
  | cons {f:Field} {fs:List Field} {td:TypeDesc} {s by_:Nat} {z a b:Value} {r r':Bool} (hn:f.name≠"_") (ht:Ty P f.type td s z by_) (hf:ZS td=true) (hx:xs[f.offset]?=some a) (hy:ys[f.offset]?=some b) (he:EqV P f.type a b r) (hs:qbS P xs ys fs r'):qbS P xs ys (f::fs) (r && r')
theorem qbS.run {xs ys:Array Value} {fs:List Field} {b:Bool} (h:qbS P xs ys fs b) (d:Nat) (w:World):(Op.eqFields (d+1) xs ys fs).run P w=.ok b w:=by
  induction h with
  | nil=>rfl
  | @cons f fs td s by_ z a b r r' hn ht hf hx hy he _ ih =>
    have hp:∀ (cs:Array Value) (v:Value),cs[f.offset]?=some v→(part f.type cs f.offset).run P w=.ok v w:=fun cs v hv=>by
      simp [part,ht.isAgg,hf,hv,Result.andThen]
    simp only [Op.eqFields,if_pos hn,Sem.run_bind,hp xs a hx,hp ys b hy,he d w,Result.andThen_ok]
    cases r with
    | true=>simpa using ih
    | false=>simp
theorem qc9 {fs:Array Field} {xs ys:Array Value} {b:Bool} (ht:Ty P t (.struct fs) s z by_) (hp:P.stoodInHeld t=false) (h:qbS P xs ys fs.toList b) (w:World):(Op.equalIn 10000 t (.agg xs) (.agg ys)).run P w=.ok b w:=by
  have hfs:P.fieldsOf t=fs:=by simp [Program.fieldsOf,ht.und]
  rw [run_equalIn_struct w 9999 t xs ys (by rw [hfs]; exact ht.und) hp,hfs]
  exact h.run 9998 w
end
section
variable {P:Program} {rd:Option Nat} {w0:World} {Q:Exit→Act→World→Prop} {n:Nat} {ds:List Deferred} {k:List It} {env env':Env} {H H':qg} {all:Array Oper} {rest:List Oper}
variable {d:Nat} {x y c:Operand} {t u ty:TypeId} {pos:String} {aft:Array Edge} {v:Value}
theorem X_neA {fs:Array Field} {xs ys:Array Value} {b:Bool} {s by_:Nat} {z:Value} {C:World→Prop} (hx:opv env x=some (.agg xs)) (hy:opv env y=some (.agg ys)) (ht:Ty P t (.struct fs) s z by_) (hp:P.stoodInHeld t=false) (hm:P.eqGuardType P.depth t=false) (h:qbS P xs ys fs.toList b) :
    Ex P n env C (.binOp .neq t x y u) ty (.bool (!b)):=fun a w d pos aft g ha _=>by
  simp [execOp,ha.opv hx,ha.opv hy,run_eqGuard_agg w .neq t x y xs ys hm,run_neq_struct,qc9 ht hp h,Result.andThen]
theorem zP.part {b i e tot s:Nat} {l vs:List Value} (hm:(b,Blk.cells e tot l)∈H) (hl:(l.drop i).take s=vs):zP w0 H b i vs:=fun j v h=>by
  refine qh.own hm ?_
  subst hl
  rw [List.getElem?_take] at h
  split at h
  · rwa [List.getElem?_drop] at h
  · cases h
theorem Jm {b i e tot s by_:Nat} {td:TypeDesc} {z:Value} {l vs:List Value} (hx:opv env x=some (.pointer (some ⟨b,i,none⟩))) (ht:Ty P t td s z by_) (hf:ZS td=false) (hm:(b,Blk.cells e tot l)∈H) (hn:Nat.ble (i+s) l.length=true) (hl:(l.drop i).take s=vs) :
    Ex P n env (Sat w0 H) (.load t x) ty (.agg vs.toArray) :=
  Ys hx ht hf (by subst hl; have:=Nat.le_of_ble_eq_true hn; simp; omega) (zP.part hm hl)
theorem q8 {b i e tot s by_:Nat} {td:TypeDesc} {z:Value} {l vs:List Value} (hx:opv env x=some (.pointer (some ⟨b,i,none⟩))) (ht:Ty P t td s z by_) (hf:ZS td=false) (hm:(b,Blk.cells e tot l)∈H) (hn:Nat.ble (i+s) l.length=true) (hl:(l.drop i).take s=vs) (hd:Nat.blt d n=true)
    (h:W P rd w0 Q n ds (.ops all rest::k) ((d,.agg vs.toArray)::env) H):W P rd w0 Q n ds (.ops all (⟨some d,.load t x,ty,pos,aft,none⟩::rest)::k) env H :=
  q5 rfl nofun hd (fun a w ha hs=>Jm hx ht hf hm hn hl a w _ _ _ _ ha hs) h
theorem Yu {d:Option Nat} {f:FuncId} {l:List Operand} {vs args:List Value} {fa ca:List Value} {tys:Array TypeId} (hx:opv env x=some (.func (.func f) fa.toArray ca.toArray)) (hc:Zk env l vs) (ha:fa++vs++ca=args) (hf:∀ (args:Array Value) (w:World),(callFunc f args).run P w=.ok (.enter f args) w) (hd:dok n d=true)
    {T:World→Prop} (hT:T w0) (hL:Qc P T f args v) (h:W P rd w0 Q n ds (.ops all rest::k) (put d v env) H) :
    W P rd w0 Q n ds (.ops all (⟨d,.call ⟨.value x,l.toArray,tys⟩,t,pos,aft,none⟩::rest)::k) env H:=by
  subst ha
  refine qct hx hc hf hd (R:=fun v' H'=>v'=v∧H'=H) ?_ (by rintro v' H' ⟨rfl,rfl⟩; exact h)
  have:=hL w0 H hT
  simpa using this
theorem W_x {op:Op} (hx:Ex P n env (Sat w0 H) op ty v) (hdef:∀ c,op≠.defer c) (hd:Nat.blt d n=true) (h:W P rd w0 Q n ds (.ops all rest::k) ((d,v)::env) H):W P rd w0 Q n ds (.ops all (⟨some d,op,ty,pos,aft,none⟩::rest)::k) env H :=
  q5 rfl hdef hd (fun a w ha hs=>hx a w _ _ _ _ ha hs) h
end
end Go.Sl
