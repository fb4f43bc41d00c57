/-
  Own work: a small logic for walking through a function's code: facts on slots, owned blocks of memory, and its rules; of any program.
-/
import Derived.Test.YtincjohoncljoaaGreatDoorLhS2
import Derived.ChangeKeysEq
import Derived.Shelf.SlSortCmp.Whole1
import Derived.Test.YtincjohoncljoaaGreatDoorLhS1
set_option linter.all false
set_option linter.unusedSimpArgs false
set_option linter.unusedVariables false
namespace Go.Sl.Rd
open Go.RowKit
def qaD (ops:Array Oper):Bool:=ops.all fun o=>match o.op with | .defer _=>false | _=>true
theorem YM {ops:Array Oper} (h:qaD ops=true) (j:Nat) (o:Oper) (hj:ops[j]?=some o) (c:Call):o.op≠.defer c:=fun e=>by
  have:=Array.all_eq_true'.1 h o (Array.mem_of_getElem? hj)
  rw [e] at this; cases this
def Q0 (rd:Option Nat) (P:Program) (Q:Exit→Act→World→Prop) (k:List It):Exit→Act→World→Prop
  | .normal,a,w=>Qx P rd Q k .normal a w
  | _,_,_=>False
theorem qdS {rd:Option Nat} {P:Program} {Q:Exit→Act→World→Prop} {k:List It} {e:Exit} {a:Act} {w:World} (h:Q0 rd P Q k e a w):Qx P rd Q k e a w:=by cases e <;> first | exact h | exact h.elim
section
variable {rd:Option Nat} {P:Program} {ops:Array Oper} {C:World→Prop} {Q:Exit→Act→World→Prop}
def Jq (rd:Option Nat) (P:Program) (ops:Array Oper) (C:World→Prop) (Q:Exit→Act→World→Prop):Nat→Array Bool→Act→World→Prop
  | 0,l,a,w=>C w∧Region.ready .any ops l=[]∧Q .normal a w
  | f+1,l,a,w=>C w∧(Region.ready .any ops l=[]→Q .normal a w)∧∀ i∈Region.ready .any ops l,wpOpIn (fen rd) 0 P ops Q i (Jq rd P ops C Q f (l.setIfInBounds i true)) a w
theorem Jq.any:∀ {f:Nat} {l:Array Bool} {a:Act} {w:World},Jq rd P ops C Q f l a w→wpAnyIn (fen rd) 0 P .any ops Q f l a w
  | 0,_,_,_,h=>h.2
  | f+1,_,_,_,h=>⟨h.2.1,fun i hi=>wpOpIn_mono (fun _ _ h=>h.any) (h.2.2 i hi)⟩
theorem Xd {i:Nat} {o:Oper} {v:Value} {a:Act} {w:World} {K:Act→World→Prop} (hi:ops[i]?=some o) (hnd:∀ c,o.op≠.defer c) (hy:Je P ops C o v a) (hw:C w) (h:K (a.put o.dst v) w):wpOpIn (fen rd) 0 P ops Q i K a w:=by
  unfold Go.wpOpIn
  simp only [hi,hy.wanted,if_true,Oper.wpIn,Oper.semAt_eq _ _ _ hnd,hy.run w hw,Oper.uponIn]
  exact ⟨fun f hf=>(by rw [hy.about w hw] at hf; cases hf),h⟩
theorem JI {j:Nat} {oi oj:Oper} {v:Value} (hj:ops[j]?=some oj) (hnd:∀ c,oj.op≠.defer c) (hap:oi.apart ops oj=true) (hsi:∀ cs b,oi.op≠.select cs b) (hsj:∀ cs b,oj.op≠.select cs b)
    (hQ:∀ c a w,Q (.panic c) (a.put oi.dst v) w→Q (.panic c) a w) {K:Act→World→Prop} {a:Act} {w:World} (h:wpOpIn (fen rd) 0 P ops Q j K (a.put oi.dst v) w) :
    wpOpIn (fen rd) 0 P ops Q j (fun a' w'=>XK P ops oi oj a a'∧K (a'.put oi.dst v) w') a w:=by
  obtain ⟨h1,h2,h3⟩:=Oper.apart_spec hap
  have keep:∀ u,XK P ops oi oj a (a.put oj.dst u):=fun u=>⟨execOp_put oi hsi a oj.dst u h3,wanted_put oi a oj.dst u h3,fun w=>about_put oi w a oj.dst u h3⟩
  have keepD:∀ d u,XK P ops oi oj a (Act.put { a with defers:=d::a.defers } oj.dst u):=fun d u=>by
    have h:=(⟨execOp_put oi hsi { a with defers:=d::a.defers } oj.dst u h3,wanted_put oi { a with defers:=d::a.defers } oj.dst u h3,fun w=>about_put oi w { a with defers:=d::a.defers } oj.dst u h3⟩:XK P ops oi oj { a with defers:=d::a.defers } _)
    exact ⟨h.run,h.wanted,h.about⟩
  unfold wpOpIn at *
  simp only [hj] at *
  rw [wanted_put oj a oi.dst v h1,about_put oj w a oi.dst v h1] at h
  split
  · rename_i hw
    simp only [hw,if_true] at h
    unfold Oper.wpIn at *
    rw [about_put oj w a oi.dst v h1] at h
    refine ⟨h.1,?_⟩
    have h:=h.2
    rw [Oper.semAt_eq _ _ _ hnd,execOp_put oj hsj a oi.dst v h1] at h
    rw [Oper.semAt_eq _ _ _ hnd]
    generalize (execOp a.eval oj).run P w=r at *
    cases r with
    | ok x w' =>
      cases x <;> simp only [Oper.uponIn] at h ⊢
      case value u=>exact ⟨keep u,by rw [← Act.put_comm a v u h2]; exact h⟩
      case skip=>exact ⟨keep _,by rw [← Act.put_comm a v undef h2]; exact h⟩
      case defer d =>
        refine ⟨keepD d _,?_⟩
        rw [← Act.put_comm _ v undef h2,← Act.put_defers]
        exact h
      case enter f args =>
        refine ⟨h.1,CallsIn.mono h.2 fun e w'' he=>?_⟩
        cases e with
        | returned u=>exact ⟨keep u,by rw [← Act.put_comm a v u h2]; exact he⟩
        | panicked c=>exact hQ _ _ _ he
        | outgrown=>exact he
      case row row args=>exact ⟨h.1,RowsIn.mono h.2 fun u w'' he=>⟨keep u,by rw [← Act.put_comm a v u h2]; exact he⟩⟩
      case round l f tmps assign body =>
        refine ⟨h.1,RoundIn.mono h.2 fun e w'' he=>?_⟩
        cases e with
        | returned u=>exact ⟨keep u,by rw [← Act.put_comm a v u h2]; exact he⟩
        | panicked c=>exact hQ _ _ _ he
        | outgrown=>exact he
    | halt x w' =>
      cases x <;> simp only [Oper.uponIn] at h ⊢
      case panic u=>exact hQ _ _ _ h
  · rename_i hw
    simp only [hw] at h
    exact ⟨h.1,keep _,by rw [← Act.put_comm a v undef h2]; exact h.2⟩
theorem J4 {i:Nat} {oi:Oper} {v:Value} (hi:ops[i]?=some oi) (hsel:∀ (j:Nat) (o:Oper) cs b,ops[j]?=some o→o.op≠.select cs b) (hnd:∀ (j:Nat) (o:Oper),ops[j]?=some o→∀ c,o.op≠.defer c) (hQ:∀ c a w,Q (.panic c) (a.put oi.dst v) w→Q (.panic c) a w) :
    ∀ (f:Nat) (l:Array Bool) (a:Act) (w:World),
      (∀ j oj,ops[j]?=some oj→j≠i→l.getD j true=false→(∀ e∈oj.after,Region.binds .any e=true→e.on≠i)→oi.apart ops oj=true) →
      i∈Region.ready .any ops l→Je P ops C oi v a→Jq rd P ops C Q f (l.setIfInBounds i true) (a.put oi.dst v) w→Jq rd P ops C Q (f+1) l a w:=by
  intro f
  induction f with
  | zero =>
    intro l a w _ hr hy H
    refine ⟨H.1,fun h=>(by rw [h] at hr; cases hr),fun j hj=>?_⟩
    by_cases hji:j=i
    · subst hji; exact Xd hi (hnd _ _ hi) hy H.1 H
    · have:=ready_mono hj hji
      rw [H.2.1] at this
      cases this
  | succ f ih =>
    intro l a w hfree hr hy H
    refine ⟨H.1,fun h=>(by rw [h] at hr; cases hr),fun j hj=>?_⟩
    by_cases hji:j=i
    · subst hji; exact Xd hi (hnd _ _ hi) hy H.1 H
    · have h1:=H.2.2 j (ready_mono hj hji)
      obtain ⟨hjun,oj,hoj,hall⟩:=mem_ready.1 hj
      have hnot:∀ e∈oj.after,Region.binds .any e=true→e.on≠i:=fun e he hb heq=>by
        have h1:=hall e he hb
        have h0:=(mem_ready.1 hr).1
        rw [heq] at h1
        rcases Nat.lt_or_ge i l.size with h' | h'
        · simp [h'] at h0 h1; rw [h0] at h1; cases h1
        · simp [Array.getElem?_eq_none h'] at h1
      have h2:=JI hoj (hnd _ _ hoj) (hfree j oj hoj hji hjun hnot) (fun cs b=>hsel i oi cs b hi) (fun cs b=>hsel j oj cs b hoj) hQ h1
      have hfree':∀ k ok,ops[k]?=some ok→k≠i→(l.setIfInBounds j true).getD k true=false →
          (∀ e∈ok.after,Region.binds .any e=true→e.on≠i)→oi.apart ops ok=true:=fun k ok hk hki hun hno=>by
        refine hfree k ok hk hki ?_ hno
        by_cases hjk:j=k
        · subst hjk; exact hjun
        · rw [getD_set_ne true hjk] at hun; exact hun
      refine wpOpIn_mono (fun a' w' h3=>ih (l.setIfInBounds j true) a' w' hfree' (ready_mono hr (Ne.symm hji)) (hy.pass h3.1) ?_) h2
      rw [Array.setIfInBounds_comm _ _ hji]
      exact h3.2
end
section
variable {rd:Option Nat} {P:Program} {w0:World} {Q:Exit→Act→World→Prop} {n:Nat} {ds:List Deferred} {k:List It} {env env':Env} {H H' Hc:qe} {ops:Array Oper}
def WC (rd:Option Nat) (P:Program) (w0:World) (Q:Exit→Act→World→Prop) (n:Nat) (ds:List Deferred) (k:List It) (ops:Array Oper) (Hc:qe) (fuel:Nat) (listed:Array Bool) (env:Env) (H:qe):Prop :=
  ∀ a w,zx n env a→a.defers=ds→Sat w0 H w→Jq rd P ops (Sat w0 Hc) (Q0 rd P Q k) fuel listed a w
theorem WC_done {fuel:Nat} {listed:Array Bool} (hh:qr H Hc) (hr:Region.ready .any ops listed=[]) (h:W P rd w0 Q n ds k env H):WC rd P w0 Q n ds k ops Hc fuel listed env H:=fun a w ha hd hs=>by
  have hq:Q0 rd P Q k .normal a w:=h a w ha hd hs
  cases fuel with
  | zero=>exact ⟨hs.hsub hh,hr,hq⟩
  | succ f=>exact ⟨hs.hsub hh,fun _=>hq,by rw [hr]; simp⟩
theorem qm (i:Nat) {op:Op} {ty:TypeId} {v:Value} {d:Nat} {pos:String} {aft:Array Edge} {fuel:Nat} {listed l':Array Bool} (hi:ops[i]?=some ⟨some d,op,ty,pos,aft,none⟩) (hs:Region.noSelect ops=true) (hnd:qaD ops=true) (hf:Region.free .any ops listed i=true) (hr:(Region.ready .any ops listed).contains i=true)
    (hcall:Yv op=true) (hl:listed.setIfInBounds i true=l') (hx:Ex P n env (Sat w0 Hc) op ty v) (hd:Nat.blt d n=true)
    (h:WC rd P w0 Q n ds k ops Hc fuel l' ((d,v)::env) H):WC rd P w0 Q n ds k ops Hc (fuel+1) listed env H:=fun a w ha hds hsat=>by
  subst hl
  exact J4 hi (Region.noSelect_spec hs) (YM hnd) (fun _ _ _ hq=>hq.elim) fuel listed a w (Region.free_spec hi hf) (by simpa using hr)
    ⟨by simp [Region.wanted],fun w hw=>hx a w _ _ _ _ ha hw,fun w _=>QC hcall w _⟩ (h _ w (ha.put (d:=some d) hd) hds hsat)
theorem Y9 {i:Nat} {o:Oper} {K:Act→World→Prop} {a:Act} {w:World} (hi:ops[i]?=some o) (h1:wpListIn (fen rd) 0 P ops (Qx P rd (fun _ _ _=>False) [.goal K]) [o] a w):wpOpIn (fen rd) 0 P ops (Q0 rd P Q k) i K a w:=by
  unfold wpOpIn
  rw [hi]
  unfold wpListIn at h1
  show if _ then _ else _
  split
  · rename_i hw
    rw [if_pos hw] at h1
    unfold Oper.wpIn
    refine ⟨h1.1,?_⟩
    have h2:=h1.2
    generalize (o.semAt (fen rd).round a.eval).run P w=r at h2 ⊢
    cases r with
    | ok x w' =>
      cases x <;> simp only [Oper.uponIn] at h2 ⊢ <;>
        first
          | exact h2
          | exact ⟨h2.1,CallsIn.mono h2.2 (fun e w'' he=>by cases e <;> first | exact he | exact he.elim | (obtain ⟨_,_,hf⟩:=he; exact hf.elim))⟩
          | exact ⟨h2.1,RowsIn.mono h2.2 (fun _ _ he=>he)⟩
          | exact ⟨h2.1,RoundIn.mono h2.2 (fun e w'' he=>by cases e <;> first | exact he | exact he.elim | (obtain ⟨_,_,hf⟩:=he; exact hf.elim))⟩
    | halt x w'=>cases x <;> simp only [Oper.uponIn] at h2 ⊢ <;> first | exact h2 | exact h2.elim
  · rename_i hw
    rw [if_neg hw] at h1
    exact h1
theorem WC_goal {fuel:Nat} {l':Array Bool} {k':List It} {Q':Exit→Act→World→Prop} (h:WC rd P w0 Q n ds k ops Hc fuel l' env H):W P rd w0 Q' n ds (.goal (fun a w=>Jq rd P ops (Sat w0 Hc) (Q0 rd P Q k) fuel l' a w)::k') env H :=
  YV fun a w ha hd hs=>h a w ha hd hs
end
section
variable {rd:Option Nat} {P:Program} {ops:Array Oper} {C:World→Prop} {Q:Exit→Act→World→Prop}
theorem qbK {i:Nat} {o:Oper} {v:Value} {a:Act} {w:World} {K:Act→World→Prop} (hi:ops[i]?=some o) (hnd:∀ c,o.op≠.defer c) (hy:Xp P ops C o v a) (hw:C w) (h:K (a.put o.dst v) w):wpOpIn (fen rd) 0 P ops Q i K a w:=by
  rcases hy with hy | ⟨hy,rfl⟩
  · exact Xd hi hnd hy hw h
  · unfold Go.wpOpIn
    simp only [hi,hy,Bool.false_eq_true,if_false]
    exact ⟨fun _ _=>trivial,h⟩
theorem YU {i:Nat} {oi:Oper} {v:Value} (hi:ops[i]?=some oi) (hsel:∀ (j:Nat) (o:Oper) cs b,ops[j]?=some o→o.op≠.select cs b) (hnd:∀ (j:Nat) (o:Oper),ops[j]?=some o→∀ c,o.op≠.defer c) (hQ:∀ c a w,Q (.panic c) (a.put oi.dst v) w→Q (.panic c) a w) :
    ∀ (f:Nat) (l:Array Bool) (a:Act) (w:World),
      (∀ j oj,ops[j]?=some oj→j≠i→l.getD j true=false→(∀ e∈oj.after,Region.binds .any e=true→e.on≠i)→oi.apart ops oj=true) →
      i∈Region.ready .any ops l→Xp P ops C oi v a→Jq rd P ops C Q f (l.setIfInBounds i true) (a.put oi.dst v) w→Jq rd P ops C Q (f+1) l a w:=by
  intro f
  induction f with
  | zero =>
    intro l a w _ hr hy H
    refine ⟨H.1,fun h=>(by rw [h] at hr; cases hr),fun j hj=>?_⟩
    by_cases hji:j=i
    · subst hji; exact qbK hi (hnd _ _ hi) hy H.1 H
    · have:=ready_mono hj hji
      rw [H.2.1] at this
      cases this
  | succ f ih =>
    intro l a w hfree hr hy H
    refine ⟨H.1,fun h=>(by rw [h] at hr; cases hr),fun j hj=>?_⟩
    by_cases hji:j=i
    · subst hji; exact qbK hi (hnd _ _ hi) hy H.1 H
    · have h1:=H.2.2 j (ready_mono hj hji)
      obtain ⟨hjun,oj,hoj,hall⟩:=mem_ready.1 hj
      have hnot:∀ e∈oj.after,Region.binds .any e=true→e.on≠i:=fun e he hb heq=>by
        have h1:=hall e he hb
        have h0:=(mem_ready.1 hr).1
        rw [heq] at h1
        rcases Nat.lt_or_ge i l.size with h' | h'
        · simp [h'] at h0 h1; rw [h0] at h1; cases h1
        · simp [Array.getElem?_eq_none h'] at h1
      have h2:=JI hoj (hnd _ _ hoj) (hfree j oj hoj hji hjun hnot) (fun cs b=>hsel i oi cs b hi) (fun cs b=>hsel j oj cs b hoj) hQ h1
      have hfree':∀ k ok,ops[k]?=some ok→k≠i→(l.setIfInBounds j true).getD k true=false →
          (∀ e∈ok.after,Region.binds .any e=true→e.on≠i)→oi.apart ops ok=true:=fun k ok hk hki hun hno=>by
        refine hfree k ok hk hki ?_ hno
        by_cases hjk:j=k
        · subst hjk; exact hjun
        · rw [getD_set_ne true hjk] at hun; exact hun
      refine wpOpIn_mono (fun a' w' h3=>ih (l.setIfInBounds j true) a' w' hfree' (ready_mono hr (Ne.symm hji)) (hy.pass h3.1) ?_) h2
      rw [Array.setIfInBounds_comm _ _ hji]
      exact h3.2
end
section
variable {rd:Option Nat} {P:Program} {w0:World} {Q:Exit→Act→World→Prop} {n:Nat} {ds:List Deferred} {k:List It} {env env':Env} {H H' Hc:qe} {ops:Array Oper}
theorem QY (i:Nat) {op:Op} {ty:TypeId} {v:Value} {d j dj:Nat} {b:Bool} {pos:String} {aft:Array Edge} {fuel:Nat} {listed l':Array Bool} (hi:ops[i]?=some ⟨some d,op,ty,pos,aft,some (j,b)⟩) (hs:Region.noSelect ops=true) (hnd:qaD ops=true) (hf:Region.free .any ops listed i=true) (hr:(Region.ready .any ops listed).contains i=true)
    (hcall:Yv op=true) (hl:listed.setIfInBounds i true=l') (hj:(ops[j]?).bind (·.dst)=some dj) (ht:look env dj=some (.bool b)) (hx:Ex P n env (Sat w0 Hc) op ty v) (hd:Nat.blt d n=true)
    (h:WC rd P w0 Q n ds k ops Hc fuel l' ((d,v)::env) H):WC rd P w0 Q n ds k ops Hc (fuel+1) listed env H:=fun a w ha hds hsat=>by
  subst hl
  have hy:=ha.yielded hj ht
  exact YU hi (Region.noSelect_spec hs) (YM hnd) (fun _ _ _ hq=>hq.elim) fuel listed a w (Region.free_spec hi hf) (by simpa using hr)
    (.inl ⟨by simp [Region.wanted,hy],fun w hw=>hx a w _ _ _ _ ha hw,fun w _=>QC hcall w _⟩) (h _ w (ha.put (d:=some d) hd) hds hsat)
end
section
variable {rd:Option Nat} {P:Program} {ops:Array Oper} {C C2:World→Prop} {Q:Exit→Act→World→Prop} {s:Nat}
def YT (rd:Option Nat) (P:Program) (ops:Array Oper) (C C2:World→Prop) (Q:Exit→Act→World→Prop) (s:Nat):Nat→Array Bool→Act→World→Prop
  | 0,l,a,w=>C w∧Region.ready .any ops l=[]∧Q .normal a w
  | f+1,l,a,w=>C w∧(Region.ready .any ops l=[]→Q .normal a w)∧(∀ i∈Region.ready .any ops l,i≠s→wpOpIn (fen rd) 0 P ops Q i (YT rd P ops C C2 Q s f (l.setIfInBounds i true)) a w) ∧
      (s∈Region.ready .any ops l→wpOpIn (fen rd) 0 P ops Q s (Jq rd P ops C2 Q f (l.setIfInBounds s true)) a w)
theorem YT.any:∀ {f:Nat} {l:Array Bool} {a:Act} {w:World},YT rd P ops C C2 Q s f l a w→wpAnyIn (fen rd) 0 P .any ops Q f l a w
  | 0,_,_,_,h=>h.2
  | f+1,l,_,_,h=>⟨h.2.1,fun i hi=>by
    by_cases e:i=s
    · subst e; exact wpOpIn_mono (fun _ _ h=>h.any) (h.2.2.2 hi)
    · exact wpOpIn_mono (fun _ _ h=>h.any) (h.2.2.1 i hi e)⟩
theorem YS {i:Nat} {oi:Oper} {v:Value} (hi:ops[i]?=some oi) (his:i≠s) (hsel:∀ (j:Nat) (o:Oper) cs b,ops[j]?=some o→o.op≠.select cs b) (hnd:∀ (j:Nat) (o:Oper),ops[j]?=some o→∀ c,o.op≠.defer c) (hQ:∀ c a w,Q (.panic c) (a.put oi.dst v) w→Q (.panic c) a w) :
    ∀ (f:Nat) (l:Array Bool) (a:Act) (w:World),
      (∀ j oj,ops[j]?=some oj→j≠i→l.getD j true=false→(∀ e∈oj.after,Region.binds .any e=true→e.on≠i)→oi.apart ops oj=true) →
      i∈Region.ready .any ops l→Je P ops C oi v a→((∃ os e,ops[s]?=some os∧e∈os.after∧Region.binds .any e=true∧e.on=i)∨Je P ops C2 oi v a)→YT rd P ops C C2 Q s f (l.setIfInBounds i true) (a.put oi.dst v) w→YT rd P ops C C2 Q s (f+1) l a w:=by
  intro f
  induction f with
  | zero =>
    intro l a w _ hr hy _ H
    refine ⟨H.1,fun h=>(by rw [h] at hr; cases hr),fun j hj hjs=>?_,fun hj=>?_⟩
    · by_cases hji:j=i
      · subst hji; exact Xd hi (hnd _ _ hi) hy H.1 H
      · have:=ready_mono hj hji
        rw [H.2.1] at this
        cases this
    · have:=ready_mono hj (Ne.symm his)
      rw [H.2.1] at this
      cases this
  | succ f ih =>
    intro l a w hfree hr hy hc H
    have notOf:∀ j oj,j∈Region.ready .any ops l→ops[j]?=some oj→∀ e∈oj.after,Region.binds .any e=true→e.on≠i:=fun j oj hj hoj e he hb heq=>by
      obtain ⟨_,oj',hoj',hall⟩:=mem_ready.1 hj
      obtain rfl:oj=oj':=Option.some.inj (hoj.symm.trans hoj')
      have h1:=hall e he hb
      have h0:=(mem_ready.1 hr).1
      rw [heq] at h1
      rcases Nat.lt_or_ge i l.size with h' | h'
      · simp [h'] at h0 h1; rw [h0] at h1; cases h1
      · simp [Array.getElem?_eq_none h'] at h1
    have free':∀ j,∀ k ok,ops[k]?=some ok→k≠i→(l.setIfInBounds j true).getD k true=false →
          (∀ e∈ok.after,Region.binds .any e=true→e.on≠i)→oi.apart ops ok=true:=fun j k ok hk hki hun hno=>by
      refine hfree k ok hk hki ?_ hno
      by_cases hjk:j=k
      · subst hjk
        rcases Nat.lt_or_ge j l.size with h' | h'
        · simp [h'] at hun
        · simp [Array.getElem?_eq_none h'] at hun
      · rw [getD_set_ne true hjk] at hun; exact hun
    refine ⟨H.1,fun h=>(by rw [h] at hr; cases hr),fun j hj hjs=>?_,fun hj=>?_⟩
    · by_cases hji:j=i
      · subst hji; exact Xd hi (hnd _ _ hi) hy H.1 H
      · have h1:=H.2.2.1 j (ready_mono hj hji) hjs
        obtain ⟨hjun,oj,hoj,hall⟩:=mem_ready.1 hj
        have h2:=JI hoj (hnd _ _ hoj) (hfree j oj hoj hji hjun (notOf j oj hj hoj)) (fun cs b=>hsel i oi cs b hi) (fun cs b=>hsel j oj cs b hoj) hQ h1
        refine wpOpIn_mono (fun a' w' h3=>ih (l.setIfInBounds j true) a' w' (free' j) (ready_mono hr (Ne.symm hji)) (hy.pass h3.1) (hc.imp id (·.pass h3.1)) ?_) h2
        rw [Array.setIfInBounds_comm _ _ hji]
        exact h3.2
    · have hji:s≠i:=Ne.symm his
      have h1:=H.2.2.2 (ready_mono hj hji)
      obtain ⟨hjun,oj,hoj,hall⟩:=mem_ready.1 hj
      rcases hc with ⟨os,e,hos,he,hb,heq⟩ | hc
      · exact absurd heq (notOf s os hj hos e he hb)
      · have h2:=JI hoj (hnd _ _ hoj) (hfree s oj hoj hji hjun (notOf s oj hj hoj)) (fun cs b=>hsel i oi cs b hi) (fun cs b=>hsel s oj cs b hoj) hQ h1
        refine wpOpIn_mono (fun a' w' h3=>J4 hi hsel hnd hQ f (l.setIfInBounds s true) a' w' (free' s) (ready_mono hr (Ne.symm hji)) (hc.pass h3.1) ?_) h2
        rw [Array.setIfInBounds_comm _ _ hji]
        exact h3.2
end
section
variable {rd:Option Nat} {P:Program} {w0:World} {Q:Exit→Act→World→Prop} {n:Nat} {ds:List Deferred} {k:List It} {env env':Env} {H H' Hc:qe} {ops:Array Oper} {s:Nat}
def WS (rd:Option Nat) (P:Program) (w0:World) (Q:Exit→Act→World→Prop) (n:Nat) (ds:List Deferred) (k:List It) (ops:Array Oper) (Hc:qe) (s fuel:Nat) (listed:Array Bool) (env:Env) (H:qe):Prop :=
  ∀ a w,zx n env a→a.defers=ds→Sat w0 H w→YT rd P ops (Sat w0 Hc) (Sat w0 []) (Q0 rd P Q k) s fuel listed a w
theorem W_anyS {id:Nat} {l:List Oper} (Hc:qe) (s:Nat) (hm:P.follows .mixedOrders=true) (h:WS rd P w0 Q n ds k l.toArray Hc s l.length (Array.replicate l.length false) env H):W P rd w0 Q n ds (.code (.region id l.toArray true)::k) env H:=by
  intro a w ha hd hs
  show (Code.region id l.toArray true).wpIn (fen rd) 0 P (Qx P rd Q k) a w
  exact wpIn_mono (wpIn_region_any hm (by simpa using (h a _ ha hd hs.drew).any)) fun _ _ _=>qdS
theorem WS_take (i:Nat) {op:Op} {ty:TypeId} {v:Value} {d:Nat} {pos:String} {aft:Array Edge} {fuel:Nat} {listed l':Array Bool} (hi:ops[i]?=some ⟨some d,op,ty,pos,aft,none⟩) (his:Nat.beq i s=false) (hs:Region.noSelect ops=true) (hnd:qaD ops=true) (hf:Region.free .any ops listed i=true) (hr:(Region.ready .any ops listed).contains i=true)
    (hdep:qaJ ops s i=true) (hcall:Yv op=true) (hl:listed.setIfInBounds i true=l') (hx:Ex P n env (Sat w0 Hc) op ty v) (hd:Nat.blt d n=true)
    (h:WS rd P w0 Q n ds k ops Hc s fuel l' ((d,v)::env) H):WS rd P w0 Q n ds k ops Hc s (fuel+1) listed env H:=fun a w ha hds hsat=>by
  subst hl
  exact YS hi (fun e=>by rw [e] at his; simp at his) (Region.noSelect_spec hs) (YM hnd) (fun _ _ _ hq=>hq.elim) fuel listed a w (Region.free_spec hi hf) (by simpa using hr)
    ⟨by simp [Region.wanted],fun w hw=>hx a w _ _ _ _ ha hw,fun w _=>QC hcall w _⟩ (.inl (KH hdep)) (h _ w (ha.put (d:=some d) hd) hds hsat)
theorem WS_one (i:Nat) {o:Oper} {fuel:Nat} {listed l':Array Bool} (hh:qr H Hc) (his:Nat.beq i s=false) (hr:Region.ready .any ops listed=[i]) (hi:ops[i]?=some o) (hl:listed.setIfInBounds i true=l')
    (h:W P rd w0 (fun _ _ _=>False) n ds [.ops ops [o],.goal (fun a w=>YT rd P ops (Sat w0 Hc) (Sat w0 []) (Q0 rd P Q k) s fuel l' a w)] env H):WS rd P w0 Q n ds k ops Hc s (fuel+1) listed env H:=fun a w ha hds hsat=>by
  subst hl
  have hne:i≠s:=fun e=>by rw [e] at his; simp at his
  refine ⟨hsat.hsub hh,fun h0=>(by rw [hr] at h0; cases h0),fun j hj _=>?_,fun hj=>?_⟩
  · rw [hr] at hj
    obtain rfl:j=i:=by simpa using hj
    exact Y9 hi (h a w ha hds hsat)
  · rw [hr] at hj
    exact absurd (by simpa using hj:s=i).symm hne
theorem WS_last {o:Oper} {fuel:Nat} {listed l':Array Bool} (hh:qr H Hc) (hr:Region.ready .any ops listed=[s]) (hi:ops[s]?=some o) (hl:listed.setIfInBounds s true=l')
    (h:W P rd w0 (fun _ _ _=>False) n ds [.ops ops [o],.goal (fun a w=>Jq rd P ops (Sat w0 []) (Q0 rd P Q k) fuel l' a w)] env H):WS rd P w0 Q n ds k ops Hc s (fuel+1) listed env H:=fun a w ha hds hsat=>by
  subst hl
  refine ⟨hsat.hsub hh,fun h0=>(by rw [hr] at h0; cases h0),fun j hj hjs=>?_,fun hj=>Y9 hi (h a w ha hds hsat)⟩
  rw [hr] at hj
  exact absurd (by simpa using hj) hjs
theorem WS_goal {fuel:Nat} {l':Array Bool} {k':List It} {Q':Exit→Act→World→Prop} (h:WS rd P w0 Q n ds k ops Hc s fuel l' env H):W P rd w0 Q' n ds (.goal (fun a w=>YT rd P ops (Sat w0 Hc) (Sat w0 []) (Q0 rd P Q k) s fuel l' a w)::k') env H :=
  YV fun a w ha hd hs=>h a w ha hd hs
end
end Go.Sl.Rd
namespace Go.Sl
open Go.RowKit
section
variable {P:Program} {rd:Option Nat} {w0:World} {Q:Exit→Act→World→Prop} {n:Nat} {ds:List Deferred} {k:List It} {env env':Env} {H H':qe} {all:Array Oper} {rest:List Oper}
variable {d:Nat} {x y c:Operand} {t u ty:TypeId} {pos:String} {aft:Array Edge} {v:Value} {tys:Array TypeId}
theorem qbE (z:Value) (m:Nat):(Builtin.zeroCells #[z] m).toList=List.replicate m z:=by
  apply List.ext_getElem?
  intro i
  simp only [Builtin.zeroCells,List.size_toArray,List.length_cons,List.length_nil,Nat.zero_add,Nat.mul_one,Array.toList_map,Array.toList_range,List.getElem?_map,List.getElem?_replicate]
  by_cases h:i<m
  · rw [List.getElem?_range h,if_pos h]
    simp [Nat.mod_one]
  · rw [List.getElem?_eq_none (by simpa using h),if_neg h]; rfl
theorem qlB {b o e m cap tot s by_ be:Nat} {z zl:Value} {el:TypeId} {de:TypeDesc} {l l':List Value} (hx:opv env x=some (.slice (some ⟨b,o,none⟩) m cap)) (ht:Ty P t (.slice el) s zl by_) (he:Ty P el de 1 z be) (h1:z.oneCell'=true) (hm0:0<m)
    (hm:(b,Blk.cells e tot l)∈H) (hi:o+m≤l.length) (hl:zf l o (List.replicate m z)=l') (hu:Upd b (.cells e tot l) (.cells e tot l') H H')
    (h:W P rd w0 Q n ds (.ops all rest::k) env H'):W P rd w0 Q n ds (.ops all (⟨none,.call ⟨.builtin .clear,#[x],#[t]⟩,ty,pos,aft,none⟩::rest)::k) env H :=
  Js rfl nofun rfl fun a w ha hs=>by
    subst hl
    obtain ⟨hb,cur,hc,hsz,htk⟩:=hs.own _ hm
    have hlen:l.length≤cur.size:=by
      have:=congrArg List.length htk
      simp only [List.length_take,Array.length_toList] at this
      omega
    have hcl:z.cells=#[z]:=by cases z <;> first | rfl | simp [Value.oneCell'] at h1
    have h1':∀ v∈List.replicate m z,v.oneCell'=true:=fun v hv=>by rw [List.eq_of_mem_replicate hv]; exact h1
    have hst:=run_storeCells_at P b o e (List.replicate m z) 0 cur w hc (by simp only [List.length_replicate]; omega) h1'
    simp only [Nat.add_zero,List.length_replicate] at hst
    refine ⟨.tuple #[],H',_,.inl ?_,hs.upd hu (Zr (cs:=(List.take o cur.toList++List.replicate m z++List.drop (o+m) cur.toList).toArray) hb) (fun j hj _=>setRow_other w b j _ hj) ?_,h⟩
    · have hm':m≠0:=by omega
      obtain ⟨m',rfl⟩:∃ m',m=m'+1:=⟨m-1,by omega⟩
      simp [execOp,resolve,invoke,builtin,ha.opv hx,Builtin.clear_,ht.run,he.zero,hcl,qbE,hst,Result.andThen]
    · refine ⟨_,setRow_heap w b cur _ e _ hc,?_,?_⟩
      · simp only [List.size_toArray,List.length_append,List.length_take,List.length_drop,Array.length_toList,List.length_replicate]
        omega
      · rw [ZS (by simpa using hi)]
        show (List.take o cur.toList++List.replicate m z++List.drop (o+m) cur.toList).take l.length=zf l o (List.replicate m z)
        unfold zf
        have e1:l.take o=cur.toList.take o:=by rw [← htk,List.take_take]; congr 1; omega
        have e2:l.drop (o+(List.replicate m z).length)=(cur.toList.drop (o+m)).take (l.length-(o+m)):=by
          rw [List.length_replicate]
          conv=>lhs; rw [← htk]
          rw [List.drop_take]
        rw [e1,e2,List.append_assoc,List.append_assoc,List.take_append,List.take_append]
        simp only [List.length_take,List.length_replicate,Array.length_toList]
        congr 1
        · rw [List.take_take]; congr 1; omega
        · congr 1
          · exact List.take_of_length_le (by simp only [List.length_replicate]; omega)
          · congr 1; omega
end
end Go.Sl
namespace Go.Sl
open Go.RowKit
def WR (P:Program) (C:World→Prop) (K:Act→World→Prop) (n:Nat) (ops:Array Oper) (l:List Oper) (env:Env):Prop :=
  ∀ a,zx n env a→a.defers=[]→wpQuietIn (fen none) 0 P ops C (fun a'=>∀ w',C w'→K a' w') l a
section
variable {P:Program} {C:World→Prop} {K:Act→World→Prop} {n:Nat} {ops:Array Oper} {env:Env} {rest:List Oper} {op:Op} {ty:TypeId} {v:Value} {pos:String} {aft:Array Edge}
theorem qnb (h:∀ a w,zx n env a→a.defers=[]→C w→K a w):WR P C K n ops [] env:=fun a ha hd w hw=>h a w ha hd hw
def Kret (P:Program) (C:World→Prop) (fn:Func) (v:Value):Act→World→Prop:=fun a w=>Code.ret.wpIn (fen none) 0 P (bodyPostM Fence.wide 0 P fn (fun e w'=>e=.returned v∧C w')) a w
theorem qna {fn:Func} {d0:Nat} (hres:fn.results=#[.tmp d0]) (hv:look env d0=some v):WR P C (Kret P C fn v) n ops [] env:=qnb fun a w ha hd hw=>by
  refine wpIn_ret ?_
  show LeavesInM _ _ _ _ _ _ a.defers _ _
  rw [hd]
  exact ⟨v,by rw [qc7 hres,ha.val _ _ hv],rfl,hw⟩
theorem qab {d:Nat} (hx:Ex P n env C op ty v) (hd:Nat.blt d n=true) (h:WR P C K n ops rest ((d,v)::env)):WR P C K n ops (⟨some d,op,ty,pos,aft,none⟩::rest) env:=fun a ha hds=>by
  refine ⟨fun _ _ _ _=>trivial,?_⟩
  rw [if_pos (by simp [Region.wanted])]
  exact ⟨v,fun w hs=>by
    unfold Oper.quietAtIn
    rw [hx a w (some d) pos aft none ha hs]
    exact ⟨rfl,rfl⟩,h _ (ha.put (d:=some d) hd) hds⟩
theorem qlC {d:Option Nat} {f:FuncId} {l:List Operand} {vs:List Value} {tys:Array TypeId} (hc:J9 env l vs) (hf:∀ (args:Array Value) (w:World),(callFunc f args).run P w=.ok (.enter f args) w) (hd:dok n d=true)
    (hL:∀ w,C w→Calls P f vs.toArray w fun e w'=>e=.returned v∧w'=w) (h:WR P C K n ops rest (put d v env)):WR P C K n ops (⟨d,.call ⟨.value (.func f),l.toArray,tys⟩,ty,pos,aft,none⟩::rest) env:=fun a ha hds=>by
  refine ⟨fun _ _ _ _=>trivial,?_⟩
  rw [if_pos (by simp [Region.wanted])]
  refine ⟨v,fun w hs=>?_,h _ (ha.put hd) (by cases d <;> exact hds)⟩
  unfold Oper.quietAtIn
  have hl:l.map a.eval=vs:=ha.opvs hc
  rw [show (execOp a.eval ⟨d,.call ⟨.value (.func f),l.toArray,tys⟩,ty,pos,aft,none⟩).run P w=.ok (.enter f vs.toArray) w by
    simp [execOp,resolve,Act.eval,Deferred.ofValue,invoke,hl,hf,Result.andThen]]
  refine ⟨rfl,fun h=>by simp [Fence.wide] at h,?_⟩
  have hcl:CallsIn (fen none) 0 P f vs.toArray w _:=callsIn_wide.2 (hL w hs)
  exact hcl.mono fun e w'' ⟨he,hw⟩=>⟨by rw [he],by rw [hw]; exact hs⟩
theorem qlJ {f:FuncId} {fn:Func} {id id2 d0:Nat} {v0:Value} {ty0:TypeId} {pos0:String} {aft0:Array Edge} {l:List Oper} {args:List Value} (hf:P.funcs[f]?=some fn)
    (hb:fn.body=some (.seq (.region id #[⟨some d0,.assign (.const v0),ty0,pos0,aft0,none⟩] false) (.seq (.region id2 l.toArray true) .ret))) (hn:fn.ntmps=n) (hl:Nat.ble args.length n=true) (he:Xx 0 args=env) (hd0:Nat.blt d0 n=true)
    (hm:P.follows .mixedOrders=true) (hB:Region.lexB .any l.toArray=true) (hC:∀ w,C w→C w.drew) (h:WR P C (Kret P C fn v) n l.toArray l ((d0,v0)::env)) :
    ∀ w,C w→CallsIn Fence.wide 0 P f args.toArray w fun e w'=>e=.returned v∧C w':=by
  intro w hw
  refine callsIn_of_wp_marks hf hb trivial ?_
  refine wpIn_seq ?_
  have hl':args.length≤n:=by simpa using hl
  have ha:zx n env { tmps:=args.toArray++Array.replicate (fn.ntmps-args.toArray.size) undef,defers:=[] }:=by
    refine ⟨by simp [hn]; omega,fun x v hx=>?_⟩
    subst he
    obtain ⟨_,h2⟩:=YP args 0 x v hx
    have h3:x<args.length:=(List.getElem?_eq_some_iff.1 h2).1
    simp only [Array.getD_eq_getD_getElem?]
    rw [Array.getElem?_append_left (by simpa using h3)]
    simpa using congrArg (Option.getD · undef) h2
  have had:({ tmps:=args.toArray++Array.replicate (fn.ntmps-args.toArray.size) undef,defers:=[] }:Act).defers=[]:=rfl
  generalize ({ tmps:=args.toArray++Array.replicate (fn.ntmps-args.toArray.size) undef,defers:=[] }:Act)=a at ha had ⊢
  refine wpIn_region_lit (l:=[⟨some d0,.assign (.const v0),ty0,pos0,aft0,none⟩]) ?_
  unfold wpListIn
  rw [if_pos (by simp [Region.wanted])]
  refine ⟨fun _ _=>trivial,?_⟩
  rw [Oper.semAt_eq _ _ _ (fun _ h=>by cases h),show (execOp a.eval ⟨some d0,.assign (.const v0),ty0,pos0,aft0,none⟩).run P w=.ok (.value v0) w by simp [execOp,Act.eval],Oper.uponIn_value]
  have ha1:zx n ((d0,v0)::env) (a.put (some d0) v0):=ha.put (d:=some d0) hd0
  show (Code.seq (.region id2 l.toArray true) .ret).wpIn _ _ _ _ _ _
  refine wpIn_seq ?_
  refine wpIn_region_quiet (F:=fen none) (C:=C) rfl hm hB (hC w hw) ?_
  simp only [List.toList_toArray]
  exact h _ ha1 had
end
theorem Ex.mono {P:Program} {n:Nat} {env:Env} {C C':World→Prop} {op:Op} {ty:TypeId} {v:Value} (h:∀ w,C w→C' w) (hx:Ex P n env C' op ty v):Ex P n env C op ty v:=fun a w d pos aft g ha hw=>hx a w d pos aft g ha (h w hw)
theorem Sat.drewN {w0 w:World} {H:qe} (h:Sat w0 H w) (q:Nat):Sat w0 H (w.drewN q):=h.below' ⟨rfl,rfl,rfl,Nat.le_refl _,fun _ _=>rfl⟩
open Go.Proofs in
theorem Yr {α:Type} [Inhabited α] {w0 w:World} {H:qe} {enc:α→Value} {e:TypeId} {b tot n:Nat} {d:List α} {d':Array α} {os:Array Obj} (hs:Sat w0 ((b,.cells e tot (d.map enc))::H) w) (hsz':d'.size=d.length) :
    Sat w0 ((b,.cells e tot (d'.toList.map enc))::H) (sortWorld enc w b 0 n d' os):=by
  obtain ⟨hb,c,hc,hcs,ht⟩:=hs.own (b,.cells e tot (d.map enc)) List.mem_cons_self
  have hs1:Sat w0 ((b,.cells e tot (d.map enc))::H) (Sort.ahead w n):=hs.below' ⟨rfl,rfl,rfl,Nat.le_refl _,fun _ _=>rfl⟩
  have hs2:Sat w0 ((b,.cells e tot (d'.toList.map enc))::H) (Sort.putRow enc (Sort.ahead w n) b 0 d'):=by
    refine hs1.upd (.head _) ⟨rfl,rfl,rfl,by simp [Sort.putRow,Sort.mapBlock],fun k hk=>?_⟩ (fun j hj _=>?_) ?_
    · simp only [Sort.putRow,Sort.mapBlock,Array.getElem?_modify]
      rw [if_neg (by omega)]
    · simp only [Sort.putRow,Sort.mapBlock,Array.getElem?_modify]
      rw [if_neg (fun e=>hj e.symm)]
    · refine ⟨Sort.putCells enc 0 d' c,?_,by simp [Sort.putCells,hcs],?_⟩
      · have hc':(Sort.ahead w n).heap[b]?=some (.cells c e (0,0)):=hc
        simp only [Sort.putRow,Sort.mapBlock,Array.getElem?_modify,if_true,hc',Option.map_some]
        rfl
      · have hle:d.length≤c.size:=by
          have:=congrArg List.length ht
          simp only [List.length_take,List.length_map,Array.length_toList] at this
          omega
        refine List.ext_getElem (by simp [Sort.putCells,hsz']; omega) fun i h1 h2=>?_
        have hi:i<d'.size:=by simpa using h2
        simp [Sort.putCells,hi]
  exact hs2.below' (by
    refine ⟨rfl,rfl,rfl,?_,fun k hk=>?_⟩
    · show _≤(_++os).size; simp
    · show (_++os)[k]?=_
      rw [Array.getElem?_append_left hk])
open Go.Proofs in
theorem qnq {α:Type} [Inhabited α] {P:Program} {w0:World} {H:qe} {f g:FuncId} {cb:Array Value} {enc:α→Value} {cf:α→α→Int} {e:TypeId} {b tot cap:Nat} {d:List α}
    (hcon:∀ w,Sat w0 ((b,.cells e tot (d.map enc))::H) w→Calls P f #[.slice (some ⟨b,0,none⟩) d.length cap,.func (.func g) #[] cb] w fun en w' =>
      en=.returned (.tuple #[])∧∃ d' n os,Go.Sort.PermIn 0 d.length d.toArray d'∧Go.Sort.SortedIn (ltOf cf) 0 d.length d'∧w'=sortWorld enc w b 0 n d' os) :
    qk P w0 f #[.slice (some ⟨b,0,none⟩) d.length cap,.func (.func g) #[] cb] ((b,.cells e tot (d.map enc))::H)
      (fun v H'=>v=.tuple #[]∧∃ d':List α,d'.Perm d∧(∀ (i j:Nat) x y,i<j→d'[i]?=some x→d'[j]?=some y→ltOf cf y x=false)∧H'=(b,.cells e tot (d'.map enc))::H):=fun w hs=>by
  refine (callsIn_wide.2 (hcon w hs)).mono ?_
  rintro en w' ⟨rfl,d',n,os,hp,hsrt,rfl⟩
  obtain ⟨hsz,_,hperm⟩:=hp
  have hsz':d'.size=d.length:=by simpa using hsz
  have e1:(d'.extract 0 d.length).toList=d'.toList:=by simp [← hsz']
  have e2:(d.toArray.extract 0 d.length).toList=d:=by simp
  rw [e1,e2] at hperm
  refine ⟨.tuple #[],(b,.cells e tot (d'.toList.map enc))::H,rfl,⟨rfl,d'.toList,hperm,fun i j x y hij hx hy=>?_,rfl⟩,Yr hs hsz'⟩
  have hj:j<d'.size:=by simpa using (List.getElem?_eq_some_iff.1 hy).1
  have h1:=hsrt i j (Nat.zero_le _) hij (by omega)
  have ex:d'[i]! = x:=by
    have:d'[i]?=some x:=by simpa using hx
    simp [getElem!_def,this]
  have ey:d'[j]! = y:=by
    have:d'[j]?=some y:=by simpa using hy
    simp [getElem!_def,this]
  rwa [ex,ey] at h1
open Go.Proofs in
theorem qbY {α:Type} [Inhabited α] {w0 w:World} {H:qe} {enc:α→Value} {e:TypeId} {b tot:Nat} {d:List α} (hs:Sat w0 ((b,.cells e tot (d.map enc))::H) w):Sort.Holds enc w b 0 d.toArray:=fun j hj=>by
  have hj':j<d.length:=by simpa using hj
  refine ⟨?_,hs.frozen List.mem_cons_self⟩
  rw [Nat.zero_add]
  refine hs.cell List.mem_cons_self ?_
  rw [List.getElem?_map,List.getElem?_eq_getElem hj']
  simp [hj']
open Go.Proofs in
theorem qkb {α:Type} (g:α→Int):Sort.SWO (ltOf fun x y=>Lib.compareInt (g x) (g y)):=by
  have e:∀ x y,ltOf (fun x y=>Lib.compareInt (g x) (g y)) x y=decide (g x<g y):=fun x y=>by
    unfold ltOf Lib.compareInt
    by_cases h1:g x<g y
    · simp [h1]
    · by_cases h2:g y<g x <;> simp [h1,h2]
  exact ⟨fun x=>by rw [e]; simp,fun x y z h1 h2=>by rw [e] at *; simp at *; omega,fun x y z h1 h2=>by rw [e] at *; simp at *; omega⟩
open Go.Proofs in
theorem qmI {α:Type} (g:α→Int) {x y:α} (h:ltOf (fun x y=>Lib.compareInt (g x) (g y)) x y=false):g y≤g x:=by
  unfold ltOf Lib.compareInt at h
  by_cases h1:g x<g y
  · simp [h1] at h
  · omega
end Go.Sl
namespace Go.Sl
open Go.RowKit
section
variable {P:Program} {w0:World} {Q:Exit→Act→World→Prop} {n:Nat} {ds:List Deferred} {k:List It} {env env':Env} {H H' Hc:qe} {ops:Array Oper} {s:Nat}
theorem qjS (i j:Nat) {o o':Oper} {fuel:Nat} {listed l' l'':Array Bool} (hh:qr H Hc) (his:Nat.beq i s=false) (hjs:Nat.beq j s=false) (hr:Region.ready .any ops listed=[i,j]) (hi:ops[i]?=some o) (hj:ops[j]?=some o') (hl:listed.setIfInBounds i true=l') (hl':listed.setIfInBounds j true=l'')
    (h:W P none w0 (fun _ _ _=>False) n ds [.ops ops [o],.goal (fun a w=>YT P ops (Sat w0 Hc) (Sat w0 []) (Q0 P Q k) s fuel l' a w)] env H)
    (h':W P none w0 (fun _ _ _=>False) n ds [.ops ops [o'],.goal (fun a w=>YT P ops (Sat w0 Hc) (Sat w0 []) (Q0 P Q k) s fuel l'' a w)] env H):WS P w0 Q n ds k ops Hc s (fuel+1) listed env H:=fun a w ha hds hsat=>by
  subst hl hl'
  have hi1:i≠s:=fun e=>by rw [e] at his; simp at his
  have hj1:j≠s:=fun e=>by rw [e] at hjs; simp at hjs
  refine ⟨hsat.hsub hh,fun h0=>(by rw [hr] at h0; cases h0),fun x hx _=>?_,fun hs=>?_⟩
  · rw [hr] at hx
    rcases (show x=i∨x=j by simpa using hx) with rfl | rfl
    · exact Y9 hi (h a w ha hds hsat)
    · exact Y9 hj (h' a w ha hds hsat)
  · rw [hr] at hs
    rcases (show s=i∨s=j by simpa using hs) with e | e
    · exact absurd e.symm hi1
    · exact absurd e.symm hj1
end
end Go.Sl
namespace Go.Sl
open Go.RowKit
section
variable {P:Program} {rd:Option Nat} {w0:World} {Q:Exit→Act→World→Prop} {n:Nat} {ds:List Deferred} {k:List It} {env env':Env} {H H':qe} {all:Array Oper} {rest:List Oper}
variable {d:Nat} {x y c:Operand} {t u ty:TypeId} {pos:String} {aft:Array Edge} {v:Value} {tys:Array TypeId}
theorem qjO {ad:Option Addr} {len cap l hh m s es by_ eb:Nat} {lo hi mx:Operand} {q1 q2 q3:IntKind} {e:TypeId} {z ez:Value} {ed:TypeDesc} (hx:opv env x=some (.slice ad len cap)) (ht:Ty P t (.slice e) s z by_) (he:Ty P e ed es ez eb)
    (hlo:opv env lo=some (.int q1 (l:Int))) (hhi:opv env hi=some (.int q2 (hh:Int))) (hmx:opv env mx=some (.int q3 (m:Int))) (h1:l≤hh) (h2:hh≤m) (h3:m≤cap) (hd:Nat.blt d n=true)
    (h:∀ v,W P rd w0 Q n ds (.ops all rest::k) ((d,v)::env) H):W P rd w0 Q n ds (.ops all (⟨some d,.slice t x (some lo) (some hi) (some mx),ty,pos,aft,none⟩::rest)::k) env H :=
  Qd (v:=.slice (if m=l then ad else ad.map (·.add (l*es))) (hh-l) (m-l)) rfl nofun hd (fun a w ha _=>by
    have hb:(Instr.sliceBounds true len cap (some (a.eval lo)) (some (a.eval hi)) (some (a.eval mx))).run P w=.ok (l,hh,m) w:=by
      simp [Instr.sliceBounds,ha.opv hlo,ha.opv hhi,ha.opv hmx,Instr.sliceBound,asIntOf,h1,h2,h3,Result.andThen]
    simp [execOp,ha.opv hx,Instr.sliceAt,Instr.slice,ht.run,hb,he.size,Result.andThen]) (h _)
theorem qeG {b len m cap kcap:Nat} {e:TypeId} {s sl bytes bl:Nat} {z zl:Value} {de:TypeDesc} {l news:List Value} {ad:Option Addr} (hx:opv env x=some (.slice (some ⟨b,0,none⟩) len cap)) (hy:opv env y=some (.slice ad m kcap)) (ht:Ty P t (.slice e) sl zl bl) (he:Ty P e de s z bytes) (hsz:0<s)
    (hm:(b,Blk.cells e (cap*s) l)∈H) (hl:news.length=m*s) (hnews:Holds w0 H ad news) (h1:news.all Value.oneCell'=true) (hlen:len*s≤l.length) (hroom:len+m≤cap) (hu:Upd b (.cells e (cap*s) l) (.cells e (cap*s) (l.take (len*s)++news)) H H') (hd:Nat.blt d n=true)
    (h:W P rd w0 Q n ds (.ops all rest::k) ((d,.slice (some ⟨b,0,none⟩) (len+m) cap)::env) H') :
    W P rd w0 Q n ds (.ops all (⟨some d,.call ⟨.builtin .append,#[x,y],#[t,t]⟩,ty,pos,aft,none⟩::rest)::k) env H :=
  Js rfl nofun hd fun a w ha hs=>by
    obtain ⟨i,hi,hsize,hz,hby⟩:=he.info
    subst hsize
    obtain ⟨hb,cur,hc,hcs,htk⟩:=hs.own _ hm
    have hcap:len*i.size+news.length≤cap*i.size:=by
      rw [hl,← Nat.add_mul]; exact Nat.mul_le_mul_right _ hroom
    have key:(Builtin.append_ #[t,t] ty #[.slice (some ⟨b,0,none⟩) len cap,.slice ad m kcap]).run P w=.ok (.slice (some ⟨b,0,none⟩) (len+m) cap) (w.setRow b (cur.toList.take (len*i.size)++news++cur.toList.drop (len*i.size+news.length)).toArray):=by
      by_cases hm0:m=0
      · subst hm0
        have hn:news=[]:=List.eq_nil_of_length_eq_zero (by simpa using hl)
        subst hn
        have:(cur.toList.take (len*i.size)++[]++cur.toList.drop (len*i.size+([]:List Value).length)).toArray=cur:=by simp
        rw [this,setRow_self w b cur e (0,0) hc]
        have hlc:len≤cap:=by omega
        cases ad <;> simp [Builtin.append_,run_underlying ht.und,sizeOf,typeInfo,hi,Builtin.lenOf,Builtin.firstCells,loadCells,loadCellsFrom,hlc,storeCells]
      · have hpos:0<news.length:=by rw [hl]; exact Nat.mul_pos (by omega) hsz
        obtain ⟨b0,o0,hb0,_⟩:=hnews 0 _ (List.getElem?_eq_getElem hpos)
        subst hb0
        refine run_append_room (P:=P) w t ty e i ht.und hi b len cap cur hc ⟨b0,o0,none⟩ m kcap news hl (fun j u hu=>?_) (fun u hu=>List.all_eq_true.1 h1 u hu) hroom (by rw [hcs]; exact hcap)
        obtain ⟨b1,o1,e1,e2⟩:=hnews j u hu
        cases e1
        rw [Qh]
        exact e2 w hs
    refine ⟨_,H',_,.inl (by simp [execOp,resolve,invoke,builtin,ha.opv hx,ha.opv hy,key,Result.andThen]),hs.upd hu (Zr (cs:=(cur.toList.take (len*i.size)++news++cur.toList.drop (len*i.size+news.length)).toArray) hb) (fun j hj _=>setRow_other w b j _ hj) ?_,h⟩
    refine ⟨_,setRow_heap w b cur _ e _ hc,?_,?_⟩
    · simp only [List.size_toArray,List.length_append,List.length_take,List.length_drop,Array.length_toList]
      omega
    · have hcl:l.length≤cur.toList.length:=by
        have:=congrArg List.length htk
        simp only [List.length_take] at this
        omega
      have e1:l.take (len*i.size)=cur.toList.take (len*i.size):=by rw [← htk,List.take_take]; congr 1; omega
      show (cur.toList.take (len*i.size)++news++cur.toList.drop (len*i.size+news.length)).take (l.take (len*i.size)++news).length=l.take (len*i.size)++news
      rw [e1]
      exact List.take_left
theorem qeE {b o e m cap tot s sl bl bytes:Nat} {z zl:Value} {el:TypeId} {de:TypeDesc} {l:List Value} (hx:opv env x=some (.slice (some ⟨b,o,none⟩) m cap)) (ht:Ty P t (.slice el) sl zl bl) (he:Ty P el de s z bytes) (hzs:z.cells.size=s) (h1:z.cells.toList.all Value.oneCell'=true) (hsz:0<s)
    (hm:(b,Blk.cells e tot l)∈H) (ho:o≤l.length) (hi:o+m*s≤tot) (hu:Upd b (.cells e tot l) (.cells e tot (l.take o)) H H')
    (h:W P rd w0 Q n ds (.ops all rest::k) env H'):W P rd w0 Q n ds (.ops all (⟨none,.call ⟨.builtin .clear,#[x],#[t]⟩,ty,pos,aft,none⟩::rest)::k) env H :=
  Js rfl nofun rfl fun a w ha hs=>by
    obtain ⟨hb,cur,hc,hcs,htk⟩:=hs.own _ hm
    have hcut:∀ {w':World} {cur':Array Value},w'.heap[b]?=some (.cells cur' e (0,0))→cur'.size=tot→cur'.toList.take o=cur.toList.take o→At w' b (.cells e tot (l.take o)):=fun h1 h2 h3=>by
      refine ⟨_,h1,h2,?_⟩
      rw [List.length_take,Nat.min_eq_left ho,h3,← htk,List.take_take,Nat.min_eq_left ho]
    by_cases hm0:m=0
    · subst hm0
      refine ⟨.tuple #[],H',w,.inl ?_,hs.upd hu (Below.refl _ _) (fun j hj _=>rfl) (hcut hc hcs rfl),h⟩
      simp [execOp,resolve,invoke,builtin,ha.opv hx,Builtin.clear_,ht.run,Result.andThen]
    · obtain ⟨m',rfl⟩:∃ m',m=m'+1:=⟨m-1,by omega⟩
      have hzl:(Builtin.zeroCells z.cells (m'+1)).toList.length=(m'+1)*s:=by rw [Array.length_toList,size_zeroCells,hzs]
      have hz1:∀ v∈(Builtin.zeroCells z.cells (m'+1)).toList,v.oneCell'=true:=fun v hv=>by
        simp only [Builtin.zeroCells,Array.toList_map,Array.toList_range,List.mem_map] at hv
        obtain ⟨i,_,rfl⟩:=hv
        have hlt:i%z.cells.size<z.cells.size:=Nat.mod_lt _ (by omega)
        rw [getElem!_pos z.cells _ hlt]
        exact List.all_eq_true.1 h1 _ (Array.getElem_mem_toList hlt)
      have hst:=run_storeCells_at P b o e (Builtin.zeroCells z.cells (m'+1)).toList 0 cur w hc (by rw [hzl,hcs]; omega) hz1
      simp only [Nat.add_zero] at hst
      refine ⟨.tuple #[],H',_,.inl ?_,hs.upd hu (Zr (cs:=(cur.toList.take o++(Builtin.zeroCells z.cells (m'+1)).toList++cur.toList.drop (o+(Builtin.zeroCells z.cells (m'+1)).toList.length)).toArray) hb) (fun j hj _=>setRow_other w b j _ hj) (hcut (setRow_heap w b cur _ e _ hc) ?_ ?_),h⟩
      · simp [execOp,resolve,invoke,builtin,ha.opv hx,Builtin.clear_,ht.run,he.zero,hst,Result.andThen]
      · simp only [List.size_toArray,List.length_append,List.length_take,List.length_drop,hzl,Array.length_toList]
        omega
      · have hoc:o≤cur.toList.length:=by rw [Array.length_toList,hcs]; omega
        show (cur.toList.take o++(Builtin.zeroCells z.cells (m'+1)).toList++cur.toList.drop _).take o=_
        rw [List.append_assoc,List.take_append_of_le_length (by rw [List.length_take]; omega),List.take_take,Nat.min_self]
end
end Go.Sl
namespace Go.Sl
open Go.RowKit
section
variable {P:Program} {rd:Option Nat} {w0:World} {Q:Exit→Act→World→Prop} {n:Nat} {ds:List Deferred} {k:List It} {env env':Env} {H H':qe} {all:Array Oper} {rest:List Oper} {d:Nat} {x y:Operand} {t ty:TypeId} {pos:String} {aft:Array Edge} {v:Value}
theorem qgn {cs:Array Value} {vs:List Value} {j s by_ len es eb:Nat} {q:IntKind} {i:Int} {e:TypeId} {z ez:Value} {ed:TypeDesc} (hx:opv env x=some (.agg cs)) (hy:opv env y=some (.int q i)) (ht:Ty P t (.array len e) s z by_) (he:Ty P e ed es ez eb) (hf:Xk ed=false) (hi:i=(j:Int)) (hj:j<len)
    (hr:(cs.toList.drop (j*es)).take es=vs) (hd:Nat.blt d n=true)
    (h:W P rd w0 Q n ds (.ops all rest::k) ((d,.agg vs.toArray)::env) H):W P rd w0 Q n ds (.ops all (⟨some d,.index t x y,ty,pos,aft,none⟩::rest)::k) env H :=
  Qd rfl nofun hd (fun a w ha _=>by
    subst hi hr
    have e2:cs.extract (j*es) (j*es+es)=((cs.toList.drop (j*es)).take es).toArray:=by
      apply Array.ext'
      rw [Array.toList_extract,List.extract_eq_take_drop]
      congr 1; omega
    simp [execOp,Instr.index,ha.opv hx,ha.opv hy,asIntOf,ht.run,he.size,he.isAgg,hf,part,hj,Result.andThen,e2]) h
end
end Go.Sl
