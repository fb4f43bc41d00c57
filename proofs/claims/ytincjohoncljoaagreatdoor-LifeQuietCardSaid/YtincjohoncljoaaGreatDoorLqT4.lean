/-
  Own work: contracts of functions that the statement reaches, and plain facts on what they compute; each theorem says its conditions.
-/
import Derived.Test.YtincjohoncljoaaGreatDoorLqT2
import Derived.Test.YtincjohoncljoaaGreatDoorLqT3
import Derived.Test.YtincjohoncljoaaGreatDoorLqS2
import Derived.Test.YtincjohoncljoaaGreatDoorLqA
set_option linter.all false
set_option linter.unusedSimpArgs false
set_option linter.unusedVariables false
set_option maxHeartbeats 16000000
namespace Go.Proofs.YtincjohoncljoaaGreatDoor
open Go Go.Sl
variable {i b2 rb k n lb gb cap sb j pb wb b5 now turn:Nat} {w0:World} {H HB HG HL X HP:qg} {gen last id:Int} {ad:Option Addr} {Q q Rs:List (Int × Int)} {XS:List qg} {ids on:List Int} {f:Value} {L:List Tm}
attribute [local irreducible] W
def dnC (gen:Int) (c:Int × Int):Bool:=decide (c.2≠0) && decide (c.2≤gen)
def twC (gen:Int) (q:List (Int × Int)):List (Int × Int):=q.takeWhile (dnC gen)
def qbo (gen:Int) (q:List (Int × Int)):List (Int × Int):=q.drop (twC gen q).length
theorem qoJ {α:Type} {p:α→Bool}:∀ {l:List α} {i:Nat} {c:α},l[i]?=some c→i≤(l.takeWhile p).length→(i<(l.takeWhile p).length↔p c=true)
 | [],_,_,h,_=>by simp at h
 | x::l,0,c,h,_=>by
  obtain rfl:x=c:=by simpa using h
  rw [List.takeWhile_cons]
  by_cases hp:p x=true
  ·rw [if_pos hp]; simp [hp]
  ·rw [if_neg hp]; simp [hp]
 | x::l,i+1,c,h,hi=>by
  rw [List.takeWhile_cons] at hi ⊢
  by_cases hp:p x=true
  ·rw [if_pos hp] at hi ⊢
   have ih:=qoJ (p:=p) (l:=l) (i:=i) (c:=c) (by simpa using h) (by simpa using hi)
   rw [← ih,List.length_cons]; omega
  ·rw [if_neg hp] at hi; simp at hi
theorem qo7 {α:Type} {p:α→Bool} {l:List α} (hi:i<(l.takeWhile p).length):(l.takeWhile p)[i]?=l[i]?:=by
 conv=>rhs; rw [← List.takeWhile_append_dropWhile (p:=p) (l:=l)]
 rw [List.getElem?_append_left hi]
theorem qiU {α:Type} {p:α→Bool} (l:List α):(l.takeWhile p).length≤l.length:=by
 conv=>rhs; rw [← List.takeWhile_append_dropWhile (p:=p) (l:=l)]
 rw [List.length_append]; omega
theorem qf2 {lp b1:Nat} {l:List (Int × Int)} (hR:Yy 64 rb l HB) (J:Nat→qg→Prop)
  (hround:∀ i c X Hi,(twC gen l)[i]?=some c→J i Hi→ZD Tryz.prog w0 lp #[.agg (List.toArray (rdC c))] ((b1,.cells 388 1 [zp rb])::(b2,.cells 3 1 [zi gen])::(X++Hi)) (fun v H'=>∃ Hi',qC H' ((b1,.cells 388 1 [zp rb])::(b2,.cells 3 1 [zi gen])::(X++Hi'))∧v=.bool true∧J (i+1) Hi')) (hJ:J 0 H) :
  qh Tryz.prog w0 398 #[.func (.yield lp) #[] #[],zp b1,zp b2] ((b1,.cells 388 1 [zp rb])::(b2,.cells 3 1 [zi gen])::(HB++H)) (fun _ H'=>∃ X' Hi',Yy 64 rb (qbo gen l) X'∧qC H' ((b1,.cells 388 1 [zp rb])::(b2,.cells 3 1 [zi gen])::(X'++Hi'))∧J (twC gen l).length Hi'):=by
 refine qc (l:=[.func (.yield lp) #[] #[],zp b1,zp b2]) Tryz.func398 rfl Tryz.ntmps398 rfl rfl ?_
 refine qeh ?_
 refine qU (X:=(Nat × qg × qg)) [(0,_),(1,_),(2,_)] (fun (z:(Nat × qg × qg))=>[]) (fun _=>_) (fun (z:(Nat × qg × qg))=>(b1,.cells 388 1 [zp rb])::(b2,.cells 3 1 [zi gen])::(z.2.1++z.2.2)) (fun (z:(Nat × qg × qg))=>z.1≤(twC gen l).length∧Yy 64 rb (l.drop z.1) z.2.1∧J z.1 z.2.2) (fun (z:(Nat × qg × qg))=>l.length-z.1) (0,HB,H) ⟨Nat.zero_le _,hR,hJ⟩ (qa rfl (qa rfl (qa rfl (qi _)))) (qi _) rfl (.refl _) ?_
 rintro ⟨i,X,Hi⟩ ⟨hi,hX,hJi⟩
 dsimp only at hi hX hJi ⊢
 have htl:(twC gen l).length≤l.length:=qiU l
 simp only [List.cons_append,List.nil_append]
 refine za 2 rfl ?_
 refine qe (v:=zp rb) rfl Jq rfl (qf.own (b:=b1) zM rfl) rfl ?_
 refine qn (zc2 rfl rfl) Tryz.call399 rfl (hX.at0 (fun p hp=>List.mem_cons_of_mem _ (List.mem_cons_of_mem _ (List.mem_append_left _ hp)))) ?_
 rcases hd:l.drop i with _ | ⟨c,rest⟩
 ·skip
  rw [show atC []=.tuple #[.agg (List.toArray (rdC (0,0))),.bool false] from rfl]
  refine za 3 rfl ?_
  refine qp (l:=rdC (0,0)) zo rfl rfl (fun b4=>?_)
  refine ql (l':=rdC (0,0)) rfl rfl zo rfl rfl (b:=b4) zM (by exact Nat.le_refl 2) rfl zU ?_
  refine za 19 rfl (Yv Tryz.results398 (.nil _) (.refl _) ?_)
  have e:i=(twC gen l).length:=by
   have:=congrArg List.length hd
   simp at this
   omega
  subst e
  exact ⟨X,Hi,hX,zH,hJi⟩
 ·skip
  rw [hd] at hX
  have hc:l[i]?=some c:=by have:=congrArg (·[0]?) hd; simpa using this
  obtain rfl:rest=l.drop (i+1):=by rw [qeb hc] at hd; exact (List.cons.inj hd).2.symm
  have hpc:=qoJ (p:=dnC gen) hc hi
  rw [show atC (c::l.drop (i+1))=.tuple #[.agg (List.toArray (rdC c)),.bool true] from rfl]
  refine za 3 rfl ?_
  refine qp (l:=rdC (0,0)) zo rfl rfl (fun b4=>?_)
  refine ql (l':=rdC c) rfl rfl zo rfl rfl (b:=b4) zM (by exact Nat.le_refl 2) rfl zU ?_
  refine za 10 rfl ?_
  refine qe (v:=zi c.2) rfl ty3 rfl (qf.own (b:=b4) zM rfl) rfl ?_
  refine za 4 rfl ?_
  apply YR
  iterate 4 exact rfl
  case h1 =>
   intro hg7
   refine za 3 rfl ?_
   refine qe (v:=zi c.2) rfl ty3 rfl (qf.own (b:=b4) zM rfl) rfl ?_
   refine QD rfl rfl ?_
   refine qe (v:=zi gen) rfl ty3 rfl (qf.own (b:=b2) zM rfl) rfl ?_
   refine za 2 rfl ?_
   exact Q3 rfl zR
  refine qs ?_
  refine qm (p:=c.2=0∨gen<c.2) rfl (by simp) (fun q0=>?_) (fun q0=>?_)
  ·skip
   refine Yv Tryz.results398 (.nil _) (.refl _) ?_
   have e:i=(twC gen l).length:=by
    have:¬ i<(twC gen l).length:=fun h=>by
     have h2:=hpc.1 h
     unfold dnC at h2
     rw [Bool.and_eq_true,decide_eq_true_eq,decide_eq_true_eq] at h2
     omega
    omega
   refine ⟨X,Hi,?_,zH,by rw [← e]; exact hJi⟩
   unfold qbo
   rw [← e,hd]; exact hX
  ·skip
   refine za 2 rfl ?_
   refine qe (v:=zp rb) rfl Jq rfl (qf.own (b:=b1) zM rfl) rfl ?_
   refine qO (H':=X++((b4,.cells 391 2 (rdC c))::(b1,.cells 388 1 [zp rb])::(b2,.cells 3 1 [zi gen])::Hi)) zH ?_
   refine qk (zc1 rfl) Tryz.call400 rfl (qlP (H:=(b4,.cells 391 2 (rdC c))::(b1,.cells 388 1 [zp rb])::(b2,.cells 3 1 [zi gen])::Hi) hX) ?_
   rintro v H' ⟨X1,hX1,rfl,rfl⟩
   refine za 3 rfl ?_
   refine qJ (vs:=rdC c) rfl zo rfl (b:=b4) zM rfl rfl rfl ?_
   have hlt:i<(twC gen l).length:=hpc.2 (by unfold dnC; rw [Bool.and_eq_true,decide_eq_true_eq,decide_eq_true_eq]; omega)
   refine JT rfl (.cons rfl .nil) rfl ((hround i c X1 Hi ((qo7 hlt).trans hc) hJi).hsub zH) ?_
   rintro v H' ⟨Hi',hsub,rfl,hJ'⟩
   refine qO hsub ?_
   refine za 5 rfl ?_
   refine qP (i+1,X1,Hi') ⟨by show i+1≤(twC gen l).length; omega,hX1,hJ'⟩ (by show l.length-(i+1)<l.length-i; omega) (qa rfl (qa rfl (qa rfl (qi _)))) rfl zH
theorem qnH:qh Tryz.prog w0 337 #[.pointer ad,zi gen] (H) (fun v H'=>∃ b1 b2,v=.func (.func 398) #[] #[zp b1,zp b2]∧H'=(b2,.cells 3 1 [zi gen])::(b1,.cells 388 1 [.pointer ad])::H):=by
 refine qc (l:=[.pointer ad,zi gen]) Tryz.func337 rfl Tryz.ntmps337 rfl rfl ?_
 refine ze ?_
 refine qK (l:=[.pointer ad]) rfl rfl rfl (fun b1=>?_)
 refine qK (l:=[zi gen]) rfl rfl rfl (fun b2=>?_)
 refine za 3 rfl (qI .nil (.cons rfl (.cons rfl .nil)) rfl (za 2 rfl (qd Tryz.results337 rfl (.nil _) (.refl _) ?_)))
 exact ⟨b1,b2,rfl,rfl⟩
def Xf (gen:Int) (Q:List (List (Int × Int))):List Int:=Q.flatMap (fun q=>(twC gen q).map (·.1))
theorem qiX {Q:List (List (Int × Int))} (h:Q[k]?=some q):Xf gen (Q.take (k+1))=Xf gen (Q.take k)++(twC gen q).map (·.1):=by
 unfold Xf
 rw [List.take_add_one,h,List.flatMap_append]
 simp
theorem qdI {gen:Int}:∀ {Q:List (List (Int × Int))},(∀ q∈Q,q.length≤64)→(Xf gen Q).length≤64*Q.length
 | [],_=>by simp [Xf]
 | q::Q,h=>by
  have ih:=qdI (gen:=gen) (Q:=Q) (fun x hx=>h x (List.mem_cons_of_mem _ hx))
  have h1:=h q List.mem_cons_self
  have h2:(twC gen q).length≤q.length:=qiU q
  unfold Xf at ih ⊢
  rw [List.flatMap_cons,List.length_append,List.length_map,List.length_cons]
  omega
theorem qbi.short {rbs:List Nat} {Q:List (List (Int × Int))} (h:qbi n rbs XS Q):∀ q∈Q,q.length≤64:=fun q hq=>by
 obtain ⟨k,hk,e⟩:=List.getElem_of_mem hq
 have h3:=h.l3
 exact (h.r k _ _ q (List.getElem?_eq_getElem (by rw [h.l1]; omega)) (List.getElem?_eq_getElem (by rw [h.l2]; omega)) (by rw [List.getElem?_eq_getElem hk,e])).most.1
theorem qnx {Q:List (List (Int × Int))} (hL:QM lb n Q last HB) (hn:0<n∧n≤64) :qh Tryz.prog w0 247 #[zp lb,zi gen] (HB++H) (fun v H'=>∃ HB' XB,QM lb n (Q.map (qbo gen)) last HB'∧zm 3 1 v (Xf gen Q).length ((Xf gen Q).map (Value.int .i64)) XB∧H'=XB++(HB'++H)):=by
 cases hL with
 | @mk v XQ XS rbs hv hl =>
 have hvl:=hv.length
 rw [List.length_map,Nat.mul_one] at hvl
 obtain ⟨ad,cap,rfl,hcl,hcm⟩:=hv.shape
 have hXr:∀ {H:qg},(∀ p∈XQ,p∈H)→Holds w0 H ad (rbs.map cbP):=fun hs=>zm.toHolds hv hs
 obtain ⟨q1,p1,rfl⟩:∃ q1 p1,ad=some ⟨q1,p1,none⟩:=by
  obtain ⟨rb,hrb⟩:∃ rb,rbs[0]?=some rb:=⟨_,List.getElem?_eq_getElem (by rw [hl.l1]; exact hn.1)⟩
  obtain ⟨q1,p1,e,_⟩:=(hXr (H:=XQ) (fun _ h=>h)).at (i:=0) (v:=cbP rb) (by rw [List.getElem?_map,hrb]; rfl)
  exact ⟨q1,p1,e⟩
 have hXc:∀ {H:qg} {k rb:Nat},(∀ p∈XQ,p∈H)→rbs[k]?=some rb→qf w0 H q1 (p1+k) (cbP rb):=fun {H k rb} hs hk=>by
  obtain ⟨q2,p2,e,hc⟩:=(hXr hs).at (i:=k) (v:=cbP rb) (by rw [List.getElem?_map,hk]; rfl)
  cases e; exact hc
 have e0:((lb,.cells 387 2 [.slice (some ⟨q1,p1,none⟩) n cap,zi last])::(XQ++XS.flatten))++H=(lb,.cells 387 2 [.slice (some ⟨q1,p1,none⟩) n cap,zi last])::(XQ++(XS.flatten++H)):=by simp only [List.cons_append,List.append_assoc]
 rw [e0]
 refine qc (l:=[zp lb,zi gen]) Tryz.func247 rfl Tryz.ntmps247 rfl rfl ?_
 refine za 6 rfl ?_
 refine W_x (qr rfl rfl Xd) (fun _ h=>by cases h) rfl ?_
 refine za 4 rfl ?_
 refine qp (l:=[.slice none 0 0]) qZ rfl rfl (fun b5=>?_)
 refine za 6 rfl ?_
 refine qe (v:=.slice (some ⟨q1,p1,none⟩) n cap) rfl ZZ rfl (qf.own (b:=lb) zM rfl) rfl ?_
 refine zZ rfl ZZ rfl rfl (za 3 rfl ?_)
 refine qU (X:=(Nat × List Nat × List qg × List (List (Int × Int)) × Value × qg)) [(1,_),(5,_),(14,_),(15,_)] (fun (z:(Nat × List Nat × List qg × List (List (Int × Int)) × Value × qg))=>[(16,zi (z.1:Int))]) (fun (z:(Nat × List Nat × List qg × List (List (Int × Int)) × Value × qg))=>z.2.1.map Go.Sl.mark) (fun (z:(Nat × List Nat × List qg × List (List (Int × Int)) × Value × qg))=>(lb,.cells 387 2 [.slice (some ⟨q1,p1,none⟩) n cap,zi last])::(XQ++(z.2.2.1.flatten++(z.2.1.map dB++((b5,.cells 63 1 [z.2.2.2.2.1])::(z.2.2.2.2.2++H)))))) (fun (z:(Nat × List Nat × List qg × List (List (Int × Int)) × Value × qg))=>z.1≤n∧qbi n rbs z.2.2.1 z.2.2.2.1∧z.2.2.2.1=((Q.take z.1).map (qbo gen)++Q.drop z.1)∧zm 3 1 z.2.2.2.2.1 (Xf gen (Q.take z.1)).length ((Xf gen (Q.take z.1)).map (Value.int .i64)) z.2.2.2.2.2) (fun (z:(Nat × List Nat × List qg × List (List (Int × Int)) × Value × qg))=>n-z.1) (0,[],XS,Q,.slice none 0 0,[]) ⟨Nat.zero_le _,hl,by simp,.nil⟩ (qa rfl (qa rfl (qa rfl (qa rfl (qi _))))) (qa rfl (qi _)) rfl (show qC _ ((lb,.cells 387 2 [.slice (some ⟨q1,p1,none⟩) n cap,zi last])::(XQ++(XS.flatten++([]++((b5,.cells 63 1 [.slice none 0 0])::([]++H)))))) from zH) ?_
 rintro ⟨k,Ds,XS1,Q1,xv,XB⟩ ⟨hi,hl1,hQ1,hO⟩
 dsimp only at hi hl1 hQ1 hO ⊢
 simp only [List.cons_append,List.nil_append]
 refine za 4 rfl ?_
 refine qm (p:=(k:Int)<(n:Int)) rfl (by simp) (fun q0=>?_) (fun q0=>?_)
 ·skip
  refine za 4 rfl ?_
  have hk:k<n:=by omega
  obtain ⟨rb,hrb⟩:∃ rb,rbs[k]?=some rb:=⟨_,List.getElem?_eq_getElem (by rw [hl1.l1]; exact hk)⟩
  obtain ⟨X,hX0⟩:∃ X,XS1[k]?=some X:=⟨_,List.getElem?_eq_getElem (by rw [hl1.l2]; exact hk)⟩
  obtain ⟨q,hq⟩:∃ q,Q1[k]?=some q:=⟨_,List.getElem?_eq_getElem (by rw [hl1.l3]; exact hk)⟩
  have hX:=hl1.r k rb X q hrb hX0 hq
  have hqq:Q[k]?=some q:=by
   rw [hQ1,List.getElem?_append_right (by rw [List.length_map,List.length_take]; omega),List.length_map,List.length_take,Nat.min_eq_left (by rw [hl.l3]; omega),Nat.sub_self,List.getElem?_drop] at hq
   simpa using hq
  have hidl:(Xf gen (Q.take k)).length≤4096:=by
   have:=qdI (gen:=gen) (Q:=Q.take k) (fun x hx=>hl.short x (List.mem_of_mem_take hx))
   rw [List.length_take] at this
   omega
  have hql:(twC gen q).length≤64:=Nat.le_trans (qiU _) hX.most.1
  refine qS (j:=k) rfl rfl ZZ Jq rfl hk rfl rfl ?_
  refine qe (v:=cbP rb) rfl Jq rfl (by rw [Nat.mul_one]; exact hXc (k:=k) (fun p hp=>List.mem_cons_of_mem _ (List.mem_append_left _ hp)) hrb) rfl ?_
  refine za 5 rfl (qk (zc2 rfl rfl) Tryz.call337 rfl qnH ?_)
  rintro v H' ⟨b1,b2,rfl,rfl⟩
  refine za 2 rfl (Qp rfl Tryz.call398 ?_)
  intro lp D r hst hpd hps hasg hbody hA
  have hr:=QC hst hpd
  show qh _ _ _ #[_,_,_] _ _
  refine ((qf2 (b1:=b1) (b2:=b2) (gen:=gen) (H:=(lp,.obj (.loop r))::(D,.obj (.deferred (some [])))::((lb,.cells 387 2 [.slice (some ⟨q1,p1,none⟩) n cap,zi last])::(XQ++((XS1.set k []).flatten++(Ds.map dB++((b5,.cells 63 1 [xv])::(XB++H))))))) hX (fun i Hi=>∃ yv YB,zm 3 1 yv ((Xf gen (Q.take k)++((twC gen q).take i).map (·.1))).length (((Xf gen (Q.take k)++((twC gen q).take i).map (·.1))).map (Value.int .i64)) YB∧Hi=(lp,.obj (.loop r))::(D,.obj (.deferred (some [])))::((lb,.cells 387 2 [.slice (some ⟨q1,p1,none⟩) n cap,zi last])::(XQ++((XS1.set k []).flatten++(Ds.map dB++((b5,.cells 63 1 [yv])::(YB++H))))))) ?_ ⟨xv,XB,by simpa using hO,rfl⟩).hsub ((show qC _ ((lp,.obj (.loop r))::(D,.obj (.deferred (some [])))::(b2,.cells 3 1 [zi gen])::(b1,.cells 388 1 [zp rb])::(lb,.cells 387 2 [.slice (some ⟨q1,p1,none⟩) n cap,zi last])::(XQ++(X++((XS1.set k []).flatten++(Ds.map dB++((b5,.cells 63 1 [xv])::(XB++H))))))) from .cons (.here _) (.cons (.here _) (.cons (.here _) (.cons (.here _) (.cons (.here _) (.app (.here _) (QK hX0))))))).trans zH)).mono ?_
  ·intro i c X1 Hi hc hJ
   obtain ⟨yv,YB,hY,rfl⟩:=hJ
   have hil:=(List.getElem?_eq_some_iff.1 hc).1
   have hyl:(Xf gen (Q.take k)++((twC gen q).take i).map (·.1)).length≤4160:=by rw [List.length_append,List.length_map,List.length_take]; omega
   refine Qo hst hpd hA hps rfl hasg rfl rfl rfl zT ?_
   refine ZM ?_
   refine qp (l:=rdC (0,0)) zo rfl rfl (fun b8=>?_)
   refine ql (l':=rdC c) rfl rfl zo rfl rfl (b:=b8) zM (by exact Nat.le_refl 2) rfl zU ?_
   refine qs (Jf hst hpd zT hbody (za 2 rfl ?_))
   refine qe (v:=yv) rfl qZ rfl (qf.own (b:=b5) zM rfl) rfl ?_
   refine za 1 rfl ?_
   refine qe (v:=zi c.1) rfl ty3 rfl (qf.own (b:=b8) zM rfl) rfl ?_
   refine qy (l:=[zi c.1]) qZ ty3 (.cons rfl rfl rfl rfl rfl .nil) rfl rfl rfl rfl rfl rfl rfl (fun b27=>?_)
   refine Qv (news:=[zi c.1]) (m:=1) (HB:=YB) (H0:=(b27,.cells 3 1 [zi c.1])::(b8,.cells 391 2 (rdC c))::(lp,.obj (.loop (Loop.at r .busy none)))::(b1,.cells 388 1 [zp rb])::(b2,.cells 3 1 [zi gen])::(X1++((D,.obj (.deferred (some [])))::((lb,.cells 387 2 [.slice (some ⟨q1,p1,none⟩) n cap,zi last])::(XQ++((XS1.set k []).flatten++(Ds.map dB++((b5,.cells 63 1 [yv])::H)))))))) rfl rfl qZ ty3 rfl (by decide) hY rfl (Holds.own (b:=b27) zM) rfl (by simp only [maxLen]; omega) (by omega) zH rfl (fun yv' YB' hY'=>?_)
   refine qv (l':=[yv']) rfl rfl qZ (by obtain ⟨a0,c0',e0,_⟩:=hY'.shape; rw [e0]; rfl) rfl (b:=b5) zM rfl rfl zU ?_
   refine za 2 rfl (Qs zT ?_)
   rw [hr]
   exact ⟨(lp,.obj (.loop r))::(D,.obj (.deferred (some [])))::((lb,.cells 387 2 [.slice (some ⟨q1,p1,none⟩) n cap,zi last])::(XQ++((XS1.set k []).flatten++(Ds.map dB++((b5,.cells 63 1 [yv'])::(YB'++H)))))),zH,rfl,yv',YB',by rw [List.take_add_one,hc]; simpa [Nat.add_assoc] using hY',rfl⟩
  ·intro _ H' hp
   obtain ⟨X',Hi',hX',hs,xv',XB',hO',rfl⟩:=hp
   rw [List.take_length] at hO'
   refine ⟨.ready,none,(lb,.cells 387 2 [.slice (some ⟨q1,p1,none⟩) n cap,zi last])::(XQ++((XS1.set k X').flatten++((dB D::Ds.map dB)++((b5,.cells 63 1 [xv'])::(XB'++H))))),by rw [hr]; exact hs.trans ((show qC _ ((lp,.obj (.loop r))::(lb,.cells 387 2 [.slice (some ⟨q1,p1,none⟩) n cap,zi last])::(XQ++(X'++((XS1.set k []).flatten++((dB D::Ds.map dB)++((b5,.cells 63 1 [xv'])::(XB'++H))))))) from zH).trans (.cons (.here _) (.cons (.here _) (.app (.here _) (ZA (by rw [hl1.l2]; exact hk)))))),by decide,?_⟩
   show W _ _ _ _ _ _ _ _ _
   refine za 3 rfl ?_
   refine qE rfl rfl (qQ (m:=((k+1:Nat):Int)) ((zg zO).trans zO)) rfl ?_
   refine za 2 rfl ?_
   refine qP (k+1,D::Ds,XS1.set k X',Q1.set k (qbo gen q),xv',XB') ⟨by show k+1≤n; omega,hl1.set hrb hX',(by show Q1.set k _=_; rw [hQ1]; exact qet hqq),by show zm 3 1 xv' (Xf gen (Q.take (k+1))).length ((Xf gen (Q.take (k+1))).map (Value.int .i64)) XB'; rw [qiX hqq]; exact hO'⟩ (by show n-(k+1)<n-k; omega) (qa rfl (qa rfl (qa rfl (qa rfl (qa rfl (qi _)))))) rfl (show qC _ ((lb,.cells 387 2 [.slice (some ⟨q1,p1,none⟩) n cap,zi last])::(XQ++((XS1.set k X').flatten++((dB D::Ds.map dB)++((b5,.cells 63 1 [xv'])::(XB'++H)))))) from .refl _)
 ·skip
  refine za 2 rfl ?_
  refine qO (H':=Ds.map dB++((lb,.cells 387 2 [.slice (some ⟨q1,p1,none⟩) n cap,zi last])::(XQ++(XS1.flatten++((b5,.cells 63 1 [xv])::(XB++H)))))) zH ?_
  refine qe (v:=xv) rfl qZ rfl (qf.own (b:=b5) zM rfl) rfl ?_
  refine za 2 rfl ?_
  refine qd (H2:=XB++((lb,.cells 387 2 [.slice (some ⟨q1,p1,none⟩) n cap,zi last])::(XQ++(XS1.flatten++H)))) Tryz.results247 rfl (XA Ds) zH ?_
  have ekn:k=n:=by omega
  rw [ekn,List.take_of_length_le (by rw [hl.l3]; exact Nat.le_refl _)] at hQ1 hO
  rw [List.drop_eq_nil_of_le (by rw [hl.l3]; exact Nat.le_refl _),List.append_nil] at hQ1
  subst hQ1
  exact ⟨(lb,.cells 387 2 [.slice (some ⟨q1,p1,none⟩) n cap,zi last])::(XQ++XS1.flatten),XB,.mk hv hl1,hO,by simp only [List.cons_append,List.append_assoc]⟩
theorem qe4 {B:qg} (h:XS[k]?=some B):qC (B++((XS.set k []).flatten++H)) (XS.flatten++H) :=
 qC.ofPerm ((((YY h).append_right H).trans (by rw [List.append_assoc])).symm)
def qdh (Q:List (List (Int × Int))):Nat:=(Q.flatten.filter (fun c=>decide (c.2=0))).length
theorem qd2:∀ {Q:List (List (Int × Int))},(∀ q∈Q,q.length≤64)→Q.flatten.length≤64*Q.length
 | [],_=>by simp
 | q::Q,h=>by
  have ih:=qd2 (Q:=Q) (fun x hx=>h x (List.mem_cons_of_mem _ hx))
  have h1:=h q List.mem_cons_self
  rw [List.flatten_cons,List.length_append,List.length_cons]
  omega
theorem lOf_L {Q:List (List (Int × Int))} (hL:QM lb n Q last HB) (hn:n≤64) (hk:k<n) (hq:Q[k]?=some q) :qh Tryz.prog w0 310 #[zp lb,zi (k:Int)] (HB++H) (fun v H'=>∃ XB,zm 391 2 v q.length (q.flatMap rdC) XB∧H'=XB++(HB++H)):=by
 cases hL with
 | @mk v XQ XS rbs hv hl =>
 have hvl:=hv.length
 rw [List.length_map,Nat.mul_one] at hvl
 obtain ⟨ad,cap,rfl,hcl,hcm⟩:=hv.shape
 have hXr:∀ {H:qg},(∀ p∈XQ,p∈H)→Holds w0 H ad (rbs.map cbP):=fun hs=>zm.toHolds hv hs
 obtain ⟨q1,p1,rfl⟩:∃ q1 p1,ad=some ⟨q1,p1,none⟩:=by
  obtain ⟨rb,hrb⟩:∃ rb,rbs[0]?=some rb:=⟨_,List.getElem?_eq_getElem zO⟩
  obtain ⟨q1,p1,e,_⟩:=(hXr (H:=XQ) (fun _ h=>h)).at (i:=0) (v:=cbP rb) (by rw [List.getElem?_map,hrb]; rfl)
  exact ⟨q1,p1,e⟩
 have hXc:∀ {H:qg} {k rb:Nat},(∀ p∈XQ,p∈H)→rbs[k]?=some rb→qf w0 H q1 (p1+k) (cbP rb):=fun {H k rb} hs hk=>by
  obtain ⟨q2,p2,e,hc⟩:=(hXr hs).at (i:=k) (v:=cbP rb) (by rw [List.getElem?_map,hk]; rfl)
  cases e; exact hc
 have hkr:k<rbs.length:=by rw [hl.l1]; exact hk
 obtain ⟨rb,hrb⟩:∃ rb,rbs[k]?=some rb:=⟨_,List.getElem?_eq_getElem hkr⟩
 obtain ⟨X,hX0⟩:∃ X,XS[k]?=some X:=⟨_,List.getElem?_eq_getElem (by rw [hl.l2]; exact hk)⟩
 have hX:=hl.r k rb X q hrb hX0 hq
 have e0:((lb,.cells 387 2 [.slice (some ⟨q1,p1,none⟩) n cap,zi last])::(XQ++XS.flatten))++H=(lb,.cells 387 2 [.slice (some ⟨q1,p1,none⟩) n cap,zi last])::(XQ++(XS.flatten++H)):=by simp only [List.cons_append,List.append_assoc]
 rw [e0]
 refine qc (l:=[zp lb,zi (k:Int)]) Tryz.func310 rfl Tryz.ntmps310 rfl rfl ?_
 refine za 6 rfl ?_
 refine W_x (qr rfl rfl Xd) (fun _ h=>by cases h) rfl ?_
 refine za 5 rfl ?_
 first | rw [decide_eq_true (by omega)] | rw [decide_eq_false (by omega)]
 refine za 11 rfl ?_
 refine qe (v:=.slice (some ⟨q1,p1,none⟩) n cap) rfl ZZ rfl (qf.own (b:=lb) zM rfl) rfl ?_
 refine QD rfl rfl (zZ rfl ZZ rfl rfl (za 2 rfl ?_))
 first | rw [decide_eq_true (by omega)] | rw [decide_eq_false (by omega)]
 refine za 8 rfl ?_
 refine qe (v:=.slice (some ⟨q1,p1,none⟩) n cap) rfl ZZ rfl (qf.own (b:=lb) zM rfl) rfl ?_
 refine qD rfl rfl ?_
 refine qS (j:=k) rfl rfl ZZ Jq (by first | rfl | omega) (by first | decide | omega | simp) rfl rfl ?_
 refine qe (v:=cbP rb) rfl Jq rfl (by rw [Nat.mul_one]; exact hXc (k:=k) (fun p hp=>List.mem_cons_of_mem _ (List.mem_append_left _ hp)) hrb) rfl ?_
 refine qO (H':=X++((lb,.cells 387 2 [.slice (some ⟨q1,p1,none⟩) n cap,zi last])::(XQ++((XS.set k []).flatten++H)))) ((show qC _ ((lb,.cells 387 2 [.slice (some ⟨q1,p1,none⟩) n cap,zi last])::(XQ++(X++((XS.set k []).flatten++H)))) from .cons (.here _) (.app (.here _) (QK hX0))).trans zH) ?_
 refine qk (zc1 rfl) Tryz.call385 rfl (hX.list (H:=(lb,.cells 387 2 [.slice (some ⟨q1,p1,none⟩) n cap,zi last])::(XQ++((XS.set k []).flatten++H)))) ?_
 rintro v H' ⟨XB,hO,rfl⟩
 refine qO (H':=XB++((lb,.cells 387 2 [.slice (some ⟨q1,p1,none⟩) n cap,zi last])::(XQ++(XS.flatten++H)))) ((show qC _ (XB++((lb,.cells 387 2 [.slice (some ⟨q1,p1,none⟩) n cap,zi last])::(XQ++(X++((XS.set k []).flatten++H))))) from zH).trans (.app (.here _) (.cons (.here _) (.app (.here _) (qe4 hX0))))) ?_
 refine za 2 rfl ?_
 refine qd (H2:=XB++((lb,.cells 387 2 [.slice (some ⟨q1,p1,none⟩) n cap,zi last])::(XQ++(XS.flatten++H)))) Tryz.results310 rfl (.nil _) zH ?_
 rw [← e0]
 exact ⟨XB,hO,rfl⟩
theorem qjd (q:List (Int × Int)):(q.flatMap rdC).all Value.oneCell'=true:=by
 rw [List.all_flatMap,List.all_eq_true]; exact fun t _=>rfl
theorem QM.facts {Q:List (List (Int × Int))} (h:QM lb n Q last HB):Q.length=n∧∀ q∈Q,q.length≤64:=by
 cases h with
 | mk hv hl=>exact ⟨hl.l3,hl.short⟩
theorem QM.slice {Q:List (List (Int × Int))} (h:QM lb n Q last HB):∃ ad cap,(lb,.cells 387 2 [(.slice ad n cap),zi last])∈HB:=by
 cases h with
 | mk hv hl =>
  obtain ⟨ad,cap,rfl,_,_⟩:=hv.shape
  exact ⟨ad,cap,List.mem_cons_self⟩
theorem qpE {Q:List (List (Int × Int))} (hL:QM lb n Q last HB) (hn:0<n∧n≤64) :qh Tryz.prog w0 223 #[zp lb] (HB++H) (fun v H'=>∃ XB,zm 391 2 v (Q.flatten).length ((Q.flatten).flatMap rdC) XB∧H'=HB++(XB++H)):=by
 obtain ⟨hQl,hsh⟩:=hL.facts
 obtain ⟨ad,cap,hsl⟩:=hL.slice
 refine qc (l:=[zp lb]) Tryz.func223 rfl Tryz.ntmps223 rfl rfl ?_
 refine za 9 rfl ?_
 refine W_x (zz rfl rfl Xd) (fun _ h=>by cases h) rfl ?_
 refine za 6 rfl ?_
 refine qe (v:=.slice ad n cap) rfl ZZ rfl (qf.own (b:=lb) (List.mem_append_left _ hsl) rfl) rfl ?_
 refine zZ rfl ZZ rfl rfl (za 3 rfl ?_)
 refine qU (X:=(Nat × Value × qg)) [(0,_),(11,_)] (fun (z:(Nat × Value × qg))=>[(12,zi (z.1:Int)),(3,z.2.1)]) (fun _=>_) (fun (z:(Nat × Value × qg))=>HB++(z.2.2++H)) (fun (z:(Nat × Value × qg))=>z.1≤n∧zm 391 2 z.2.1 ((Q.take z.1).flatten).length (((Q.take z.1).flatten).flatMap rdC) z.2.2) (fun (z:(Nat × Value × qg))=>n-z.1) (0,.slice none 0 0,[]) ⟨Nat.zero_le _,.nil⟩ (qa rfl (qa rfl (qi _))) (qa rfl (qa rfl (qi _))) rfl zH ?_
 rintro ⟨k,xv,XB⟩ ⟨hi,hO⟩
 dsimp only at hi hO ⊢
 simp only [List.cons_append,List.nil_append]
 refine za 4 rfl ?_
 refine qm (p:=(k:Int)<(n:Int)) rfl (by simp) (fun q0=>?_) (fun q0=>?_)
 ·skip
  refine za 4 rfl ?_
  obtain ⟨q,hq⟩:∃ q,Q[k]?=some q:=⟨_,List.getElem?_eq_getElem (by rw [hQl]; omega)⟩
  have hq64:=hsh q (List.mem_of_getElem? hq)
  have hfl:((Q.take k).flatten).length≤4096:=by
   have:=qd2 (Q:=Q.take k) (fun x hx=>hsh x (List.mem_of_mem_take hx))
   rw [List.length_take] at this
   omega
  refine za 7 rfl ?_
  refine qk (zc2 rfl rfl) Tryz.call310 rfl ((lOf_L hL hn.2 zO hq (H:=XB++H)).hsub zH) ?_
  rintro v H' ⟨YB,hY,rfl⟩
  obtain ⟨ad2,cap2,rfl,hh2⟩:∃ ad2 cap2,v=.slice ad2 q.length cap2∧Holds w0 (YB++(HB++(XB++H))) ad2 (q.flatMap rdC):=by
   obtain ⟨ad2,cap2,e,h3,h4,h5⟩:=Holds.of_own (w0:=w0) (H:=YB++(HB++(XB++H))) hY (fun p hp=>List.mem_append_left _ hp)
   exact ⟨ad2,cap2,e,h5⟩
  refine Qv (news:=q.flatMap rdC) (m:=q.length) (HB:=XB) (H0:=YB++(HB++H)) rfl rfl QR zo rfl (by decide) hO (zt ZP q) hh2 (qjd q) (by simp only [maxLen]; omega) (by omega) zH rfl (fun v' XB' hO'=>?_)
  refine za 4 rfl ?_
  refine qE rfl rfl (qQ (m:=((k+1:Nat):Int)) ((zg zO).trans zO)) rfl ?_
  refine za 2 rfl ?_
  refine qP (k+1,v',XB') ⟨by show k+1≤n; omega,by show zm 391 2 v' ((Q.take (k+1)).flatten).length (((Q.take (k+1)).flatten).flatMap rdC) XB'; rw [List.take_add_one,hq,Option.toList_some,List.flatten_append,List.flatten_singleton,List.flatMap_append,List.length_append]; exact hO'⟩ (by show n-(k+1)<n-k; omega) (qa rfl (qa rfl (qa rfl (qa rfl (qi _))))) rfl zH
 ·skip
  refine za 5 rfl ?_
  refine qd (H2:=HB++(XB++H)) Tryz.results223 rfl (.nil _) zH ?_
  have ekn:k=n:=by omega
  rw [ekn,List.take_of_length_le (by rw [hQl]; exact Nat.le_refl _)] at hO
  exact ⟨XB,hO,rfl⟩
theorem qdV {Q:List (List (Int × Int))} (hL:QM lb n Q last HB) (hn:0<n∧n≤64) :qh Tryz.prog w0 248 #[zp lb] (HB++H) (fun v H'=>v=zi ((qdh Q:Nat):Int)∧H'=HB++H):=by
 obtain ⟨hQl,hsh⟩:=hL.facts
 have hfl:=qd2 hsh
 refine qc (l:=[zp lb]) Tryz.func248 rfl Tryz.ntmps248 rfl rfl ?_
 refine za 9 rfl ?_
 refine qk (zc1 rfl) Tryz.call223 rfl (qpE hL hn (H:=H)) ?_
 rintro v H' ⟨XB,hO,rfl⟩
 obtain ⟨ad,cap,rfl,hcl,hcm,hrow⟩:=Holds.of_own (w0:=w0) (H:=HB++(XB++H)) hO (fun p hp=>List.mem_append_right _ (List.mem_append_left _ hp))
 refine zZ rfl QR rfl rfl (za 3 rfl ?_)
 refine qU (X:=(Nat × Int)) [(7,_),(8,_)] (fun (z:(Nat × Int))=>[(9,zi (z.1:Int)),(3,zi z.2)]) (fun _=>_) (fun (z:(Nat × Int))=>HB++(XB++H)) (fun (z:(Nat × Int))=>z.1≤Q.flatten.length∧z.2=((((Q.flatten.take z.1).filter (fun c=>decide (c.2=0))).length:Nat):Int)) (fun (z:(Nat × Int))=>Q.flatten.length-z.1) (0,0) ⟨Nat.zero_le _,rfl⟩ (qa rfl (qa rfl (qi _))) (qa rfl (qa rfl (qi _))) rfl (.refl _) ?_
 rintro ⟨i,cnt⟩ ⟨hi,hc⟩
 dsimp only at hi hc ⊢
 simp only [List.cons_append,List.nil_append]
 refine za 4 rfl ?_
 refine qm (p:=(i:Int)<(Q.flatten.length:Int)) rfl (by simp) (fun q0=>?_) (fun q0=>?_)
 ·skip
  refine za 4 rfl ?_
  obtain ⟨x,hx⟩:∃ x,Q.flatten[i]?=some x:=⟨_,List.getElem?_eq_getElem zO⟩
  obtain ⟨qx,px,rfl,hcx⟩:=Holds.row ZP zd hrow hx
  have hcb:cnt≤4096:=by
   have h1:=List.length_filter_le (fun c:Int × Int=>decide (c.2=0)) (Q.flatten.take i)
   rw [List.length_take] at h1
   omega
  refine qS (j:=i) rfl rfl QR zo rfl zO rfl rfl ?_
  refine qbQ (vs:=rdC x) rfl zo rfl rfl (hcx.up zH) rfl ?_
  refine qp (l:=rdC (0,0)) zo rfl rfl (fun b5=>?_)
  refine ql (l':=rdC x) rfl rfl zo rfl rfl (b:=b5) zM (by exact Nat.le_refl 2) rfl zU ?_
  refine za 3 rfl ?_
  refine qe (v:=zi x.2) rfl ty3 rfl (qf.own (b:=b5) zM rfl) rfl ?_
  refine za 2 rfl ?_
  refine qm (p:=x.2=0) rfl (by simp) (fun q1=>?_) (fun q1=>?_)
  ·skip
   refine za 2 rfl ?_
   refine qE rfl rfl (qQ (m:=cnt+1) (zg zO)) rfl ?_
   refine za 4 rfl ?_
   refine qE rfl rfl (qQ (m:=((i+1:Nat):Int)) ((zg zO).trans zO)) rfl ?_
   refine za 2 rfl ?_
   refine qP (i+1,cnt+1) ⟨by show i+1≤Q.flatten.length; omega,by show cnt+1=_; rw [List.take_add_one,hx,Option.toList_some,List.filter_append,List.length_append,List.filter_cons_of_pos (p:=fun c:Int × Int=>decide (c.2=0)) (by exact decide_eq_true q1),List.filter_nil,hc]; simp⟩ (by show Q.flatten.length-(i+1)<Q.flatten.length-i; omega) (qa rfl (qa rfl (qa rfl (qa rfl (qi _))))) rfl zH
  ·skip
   refine za 3 rfl ?_
   refine qE rfl rfl (qQ (m:=((i+1:Nat):Int)) ((zg zO).trans zO)) rfl ?_
   refine za 2 rfl ?_
   refine qP (i+1,cnt) ⟨by show i+1≤Q.flatten.length; omega,by show cnt=_; rw [List.take_add_one,hx,Option.toList_some,List.filter_append,List.length_append,List.filter_cons_of_neg (p:=fun c:Int × Int=>decide (c.2=0)) (by rw [decide_eq_true_eq]; exact q1),List.filter_nil,hc]; simp⟩ (by show Q.flatten.length-(i+1)<Q.flatten.length-i; omega) (qa rfl (qa rfl (qa rfl (qa rfl (qi _))))) rfl zH
 ·skip
  refine za 5 rfl ?_
  refine qd (H2:=HB++H) Tryz.results248 rfl (.nil _) zH ?_
  have e:i=Q.flatten.length:=by omega
  subst hc
  rw [e,List.take_length]
  exact ⟨rfl,rfl⟩
structure Gr where
 S:Sct
 Q:List (List (Int × Int))
 last:Int
 sc:Option (Nat × Int × Int)
 began:Int
 done:Int
 want:Int
variable {G:Gr}
inductive ScH (sb:Nat):Option (Nat × Int × Int)→Value→qg→Prop
 | none:ScH sb none (.pointer none) []
 | some {xb left:Nat} {bst place:Int}:ScH sb (some (left,bst,place)) (zp xb) [(xb,.cells 485 4 [zp sb,.int .u64 ((left:Nat):Int),.int .i64 bst,.int .i64 place])]
inductive GrH (gb n:Nat) (G:Gr):qg→Prop
 | mk {sb lb:Nat} {sv:Value} {HX HL:qg} (hS:ScH sb G.sc sv HX) (hL:QM lb n G.Q G.last HL):GrH gb n G ((gb,.cells 224 6 [zp sb,zp lb,sv,.int .i64 G.began,.int .i64 G.done,.int .i64 G.want])::(sb,.cells 250 130 (scC G.S))::(HX++HL))
structure JE (n:Nat) (G:Gr):Prop where
 sok:qbA G.S
 n:0<n∧n≤64
 left:∀ l b p,G.sc=some (l,b,p)→l<18446744073709551616
 last:G.last≤G.began
 beg:0≤G.began∧G.began≤1000000000
 st:G.S.st≤1000000000
def gr0 (n:Nat):Gr:=⟨⟨List.replicate 64 (0,0),0,0⟩,List.replicate n [],0,none,0,0,0⟩
def K0 (G:Gr) (x:Nat × Int × Int):Nat × Int:=X8 G.S x.2.1 (min 16 (QF 64 x.1)) x.1 x.2.2
def ZS (G:Gr):Gr × List Int:=match G.sc with
 | none=>(G,[])
 | some x=>if 0<QF 64 (K0 G x).1 then ({ G with sc:=some ((K0 G x).1,x.2.1,(K0 G x).2) },[]) else ({ G with sc:=none,done:=G.began,Q:=G.Q.map (qbo G.began) },Xf G.began G.Q)
def Kr (G:Gr):Gr:=if G.sc.isSome=true∨(qdh G.Q=0∧G.want≤G.began) then G else { G with began:=G.began+1,Q:=G.Q.map (fun q=>q.map (Yt (G.began+1))),last:=G.began+1,sc:=some (G.S.m,G.S.st,0) }
theorem qeE {S:Sct} {bst:Int}:∀ (k l:Nat) (p:Int),l<18446744073709551616→(X8 S bst k l p).1<18446744073709551616
 | 0,l,p,h=>h
 | k+1,l,p,h=>by
  unfold X8
  cases zN l p with
  | none=>exact h
  | some r=>exact qeE k _ _ (qeQ h)
set_option maxRecDepth 100000
theorem qj0 (hn:1≤n∧n≤64) :qh Tryz.prog w0 107 #[zi (n:Int)] (H) (fun v H'=>∃ gb HG,v=.tuple #[zp gb,zi 0]∧GrH gb n (gr0 n) HG∧H'=HG++H):=by
 refine qc (l:=[zi (n:Int)]) Tryz.func107 rfl Tryz.ntmps107 rfl rfl ?_
 refine za 6 rfl (qk (zc1 rfl) Tryz.call197 rfl (qpF hn) ?_)
 rintro v H' ⟨lb,HL,rfl,hL,rfl⟩
 refine za 14 rfl ?_
 refine qX (l:=(scC ⟨List.replicate 64 (0,0),0,0⟩)) ty250 pl250 .nil rfl zk rfl ?_
 refine qK (l:=(scC ⟨List.replicate 64 (0,0),0,0⟩)) rfl rfl rfl (fun sb=>?_)
 refine qD rfl rfl ?_
 refine qX (l:=[zp sb,zp lb,.pointer none,zi 0,zi 0,zi 0]) ty224 pl224 (.cons rfl rfl rfl rfl rfl (.cons rfl rfl rfl rfl rfl .nil)) rfl rfl rfl ?_
 refine qK (l:=[zp sb,zp lb,.pointer none,zi 0,zi 0,zi 0]) rfl rfl rfl (fun gb=>?_)
 refine za 3 rfl (qL Tryz.results107 rfl rfl (.nil _) (.refl _) ?_)
 exact ⟨gb,_,rfl,.mk (G:=gr0 n) (.none) hL,rfl⟩
theorem qj1 (hG:GrH gb n G HG) (hok:JE n G) (hk:k<n) (hq:G.Q[k]?=some q) (hrow:∀ HZ:qg,Holds w0 (HZ++H) ad [zi id]) :qh Tryz.prog w0 70 #[zp gb,zi (k:Int),.slice ad 1 cap] (HG++H) (fun v H'=>∃ HG',GrH gb n { G with Q:=G.Q.set k (qgf q id) } HG'∧v=zi (if q.length<64 then 0 else 3)∧H'=HG'++H):=by
 cases hG with
 | @mk sb lb sv HX HL hS hL =>
 have e0:((gb,.cells 224 6 [zp sb,zp lb,sv,zi G.began,zi G.done,zi G.want])::(sb,.cells 250 130 (scC G.S))::(HX++HL))++H=(gb,.cells 224 6 [zp sb,zp lb,sv,zi G.began,zi G.done,zi G.want])::(sb,.cells 250 130 (scC G.S))::(HX++(HL++H)):=by simp only [List.cons_append,List.append_assoc]
 rw [e0]
 refine qc (l:=[zp gb,zi (k:Int),.slice ad 1 cap]) Tryz.func70 rfl Tryz.ntmps70 rfl rfl ?_
 refine za 6 rfl ?_
 refine W_x (qr rfl rfl qaS) (fun _ h=>by cases h) rfl ?_
 refine za 7 rfl ?_
 refine qe (v:=zp lb) rfl Xd rfl (qf.own (b:=gb) zM rfl) rfl ?_
 refine za 2 rfl ?_
 refine qk (zc3 rfl rfl rfl) Tryz.call156 rfl ((qpG hL hok.n.2 hk hq (by have:=hrow ((gb,.cells 224 6 [zp sb,zp lb,sv,zi G.began,zi G.done,zi G.want])::(sb,.cells 250 130 (scC G.S))::HX); simpa only [List.cons_append,List.append_assoc] using this) (H:=(gb,.cells 224 6 [zp sb,zp lb,sv,zi G.began,zi G.done,zi G.want])::(sb,.cells 250 130 (scC G.S))::(HX++H))).hsub zH) ?_
 rintro v H' ⟨HL',hL',rfl,rfl⟩
 refine za 2 rfl ?_
 refine qd (H2:=(gb,.cells 224 6 [zp sb,zp lb,sv,zi G.began,zi G.done,zi G.want])::(sb,.cells 250 130 (scC G.S))::(HX++(HL'++H))) Tryz.results70 rfl (.nil _) zH ?_
 exact ⟨(gb,.cells 224 6 [zp sb,zp lb,sv,zi G.began,zi G.done,zi G.want])::(sb,.cells 250 130 (scC G.S))::(HX++HL'),.mk (G:={ G with Q:=G.Q.set k (qgf q id) }) hS hL',rfl,by simp only [List.cons_append,List.append_assoc]⟩
theorem qf1 (hm:(gb,.cells 224 6 [zp sb,zp lb,.pointer none,zi G.began,zi G.done,zi G.want])∈H) :qB Tryz.prog w0 H 154 [zp gb] (.slice none 0 0):=by
 refine qc Tryz.func154 rfl Tryz.ntmps154 rfl rfl (za 8 rfl ?_)
 refine qe (v:=.pointer none) rfl JG rfl (qf.own (b:=gb) (by repeat (first | exact hm | apply List.mem_cons_of_mem)) rfl) rfl ?_
 refine W_x (qr rfl rfl JG) (fun _ h=>by cases h) rfl ?_
 refine za 13 rfl ?_
 refine qd (H2:=H) Tryz.results154 rfl (.nil _) zH ?_
 exact ⟨rfl,rfl⟩
theorem qf0 {xb:Nat} {left:Nat} {bst place:Int} (hok:JE n G) (hsc:G.sc=some (left,bst,place)) (hL:QM lb n G.Q G.last HL) (hT:Tab w0):qh Tryz.prog w0 154 #[zp gb] ((gb,.cells 224 6 [zp sb,zp lb,zp xb,zi G.began,zi G.done,zi G.want])::(sb,.cells 250 130 (scC G.S))::(xb,.cells 485 4 [zp sb,zu ((left:Nat):Int),zi bst,zi place])::(HL++H)) (fun v H'=>(0<QF 64 (K0 G (left,bst,place)).1∧v=.slice none 0 0∧H'=(gb,.cells 224 6 [zp sb,zp lb,zp xb,zi G.began,zi G.done,zi G.want])::(sb,.cells 250 130 (scC G.S))::(xb,.cells 485 4 [zp sb,zu (((K0 G (left,bst,place)).1:Nat):Int),zi bst,zi (K0 G (left,bst,place)).2])::(HL++H))∨(¬ 0<QF 64 (K0 G (left,bst,place)).1∧∃ HL' XO,QM lb n (G.Q.map (qbo G.began)) G.last HL'∧zm 3 1 v (Xf G.began G.Q).length ((Xf G.began G.Q).map (Value.int .i64)) XO∧H'=XO++((gb,.cells 224 6 [zp sb,zp lb,.pointer none,zi G.began,zi G.began,zi G.want])::(sb,.cells 250 130 (scC G.S))::(HL'++H)))):=by
 refine qc (l:=[zp gb]) Tryz.func154 rfl Tryz.ntmps154 rfl rfl ?_
 refine za 8 rfl ?_
 refine qe (v:=zp xb) rfl JG rfl (qf.own (b:=gb) zM rfl) rfl ?_
 refine W_x (qr rfl rfl JG) (fun _ h=>by cases h) rfl ?_
 refine za 8 rfl ?_
 refine qe (v:=zp xb) rfl JG rfl (qf.own (b:=gb) zM rfl) rfl ?_
 refine QD rfl rfl ?_
 refine qO (H':=(xb,.cells 485 4 [zp sb,zu ((left:Nat):Int),zi bst,zi place])::(gb,.cells 224 6 [zp sb,zp lb,zp xb,zi G.began,zi G.done,zi G.want])::(sb,.cells 250 130 (scC G.S))::(HL++H)) zH ?_
 refine qk (zc2 rfl rfl) Tryz.call246 rfl (qfF (n:=16) hok.sok (hok.left _ _ _ hsc) (H:=(gb,.cells 224 6 [zp sb,zp lb,zp xb,zi G.began,zi G.done,zi G.want])::(sb,.cells 250 130 (scC G.S))::(HL++H)) zM hT) ?_
 rintro v H' ⟨rfl,rfl⟩
 rw [show X8 G.S bst (min 16 (QF 64 left)) left place=K0 G (left,bst,place) from rfl]
 refine za 4 rfl ?_
 refine qm (p:=0<QF 64 (K0 G (left,bst,place)).1) rfl (by rw [decide_eq_true_eq]; omega) (fun q0=>?_) (fun q0=>?_)
 ·skip
  refine za 3 rfl ?_
  refine qd (H2:=(gb,.cells 224 6 [zp sb,zp lb,zp xb,zi G.began,zi G.done,zi G.want])::(sb,.cells 250 130 (scC G.S))::(xb,.cells 485 4 [zp sb,zu (((K0 G (left,bst,place)).1:Nat):Int),zi bst,zi (K0 G (left,bst,place)).2])::(HL++H)) Tryz.results154 rfl (.nil _) zH ?_
  exact .inl ⟨q0,rfl,rfl⟩
 ·skip
  refine za 7 rfl ?_
  refine qe (v:=zi G.began) rfl ty3 rfl (qf.own (b:=gb) zM rfl) rfl ?_
  refine za 2 rfl ?_
  refine qv (l':=[zp sb,zp lb,.pointer none,zi G.began,zi G.done,zi G.want]) rfl rfl JG rfl rfl (b:=gb) zM rfl rfl zU ?_
  refine za 2 rfl ?_
  refine qv (l':=[zp sb,zp lb,.pointer none,zi G.began,zi G.began,zi G.want]) rfl rfl ty3 rfl rfl (b:=gb) zM rfl rfl zU ?_
  refine za 2 rfl ?_
  refine W_anyC [(gb,.cells 224 6 [zp sb,zp lb,.pointer none,zi G.began,zi G.began,zi G.want])] zk ?_
  refine zw [0,1,2] rfl rfl ?_
  refine WC_take 3 rfl zK zK zK rfl rfl (qj (v:=zp lb) rfl Xd rfl (qf.own (b:=gb) zM rfl)) rfl ?_
  refine zw [4,5,6] rfl rfl ?_
  refine WC_take 7 rfl zK zK zK rfl rfl (qj (v:=zi G.began) rfl ty3 rfl (qf.own (b:=gb) zM rfl)) rfl ?_
  refine WC_one 8 zH zK rfl rfl ?_
  refine qk (zc2 rfl rfl) Tryz.call247 rfl ((qnx hL hok.n (gen:=G.began) (H:=(gb,.cells 224 6 [zp sb,zp lb,.pointer none,zi G.began,zi G.began,zi G.want])::(xb,.cells 485 4 [zp sb,zu (((K0 G (left,bst,place)).1:Nat):Int),zi bst,zi (K0 G (left,bst,place)).2])::(sb,.cells 250 130 (scC G.S))::H)).hsub zH) ?_
  rintro v H' ⟨HL',XO,hL',hO,rfl⟩
  refine qs (WC_goal (zw [9] rfl rfl (WC_done zH zK ?_)))
  refine qd (H2:=XO++((gb,.cells 224 6 [zp sb,zp lb,.pointer none,zi G.began,zi G.began,zi G.want])::(sb,.cells 250 130 (scC G.S))::(HL'++H))) Tryz.results154 rfl (.nil _) zH ?_
  exact .inr ⟨q0,HL',XO,hL',hO,rfl⟩
theorem GrH.look (hG:GrH gb n G HG) (hok:JE n G) (hT:Tab w0):qh Tryz.prog w0 154 #[zp gb] (HG++H) (fun v H'=>∃ HG' XO,GrH gb n (ZS G).1 HG'∧zm 3 1 v (ZS G).2.length ((ZS G).2.map (Value.int .i64)) XO∧H'=XO++(HG'++H)):=by
 cases hG with
 | @mk sb lb sv HX HL hS hL =>
  have e1:∀ (a b:Nat × Blk) (X Y:qg),(a::b::(X++Y))++H=a::b::(X++(Y++H)):=fun a b X Y=>by simp only [List.cons_append,List.append_assoc]
  obtain ⟨S,Q,last,sc,began,done,want⟩:=G
  dsimp only at hS hL
  cases hS with
  | none =>
   refine (qf1 (G:=⟨S,Q,last,none,began,done,want⟩) (gb:=gb) (sb:=sb) (lb:=lb) List.mem_cons_self).mono ?_
   rintro v H' ⟨rfl,rfl⟩
   exact ⟨_,[],.mk (G:=⟨S,Q,last,none,began,done,want⟩) .none hL,.nil,rfl⟩
  | @some xb left bst place =>
   rw [e1]
   refine (qf0 (xb:=xb) (gb:=gb) (sb:=sb) (H:=H) hok rfl hL hT).mono ?_
   rintro v H' (⟨hp,rfl,rfl⟩ | ⟨hp,HL',XO,hL',hO,rfl⟩)
   ·have e:ZS ⟨S,Q,last,Option.some (left,bst,place),began,done,want⟩=(⟨S,Q,last,Option.some ((K0 ⟨S,Q,last,Option.some (left,bst,place),began,done,want⟩ (left,bst,place)).1,bst,(K0 ⟨S,Q,last,Option.some (left,bst,place),began,done,want⟩ (left,bst,place)).2),began,done,want⟩,[]):=if_pos hp
    rw [e]
    exact ⟨_,[],.mk .some hL,.nil,by rw [e1]; rfl⟩
   ·have e:ZS ⟨S,Q,last,Option.some (left,bst,place),began,done,want⟩=(⟨S,Q.map (qbo began),last,none,began,began,want⟩,Xf began Q):=if_neg hp
    rw [e]
    exact ⟨_,XO,.mk .none hL',hO,by rw [e1]; rfl⟩
theorem qeY {xb:Nat} (hm:(gb,.cells 224 6 [zp sb,zp lb,zp xb,zi G.began,zi G.done,zi G.want])∈H) :qB Tryz.prog w0 H 155 [zp gb] (.slice none 0 0):=by
 refine qc Tryz.func155 rfl Tryz.ntmps155 rfl rfl (za 4 rfl (zh zk zK (zq 3 rfl ?_)))
 refine qG (qj (v:=zp xb) rfl JG rfl (qf.own (b:=gb) hm rfl)) rfl ?_
 refine qG (zz rfl rfl JG) rfl (zq 8 rfl (QB rfl rfl rfl (QB rfl rfl rfl (QB rfl rfl rfl (QB rfl rfl rfl (QB rfl rfl rfl (QB rfl rfl rfl ?_)))))))
 refine QB rfl rfl rfl (QB rfl rfl rfl (QB rfl rfl rfl (zq 1 rfl ?_)))
 first | refine qG (zx rfl rfl) rfl ?_ | refine qG (zy rfl rfl) rfl ?_
 refine zX (za 4 rfl ?_)
 refine qd (H2:=H) Tryz.results155 rfl (.nil _) zH ?_
 exact ⟨rfl,rfl⟩
theorem qhZ (hok:JE n G) (hL:QM lb n G.Q G.last HL) (ho:qdh G.Q=0) (hw:G.want≤G.began) :qh Tryz.prog w0 155 #[zp gb] ((gb,.cells 224 6 [zp sb,zp lb,.pointer none,zi G.began,zi G.done,zi G.want])::(sb,.cells 250 130 (scC G.S))::(HL++H)) (fun v H'=>v=.slice none 0 0∧H'=(gb,.cells 224 6 [zp sb,zp lb,.pointer none,zi G.began,zi G.done,zi G.want])::(sb,.cells 250 130 (scC G.S))::(HL++H)):=by
 refine qc (l:=[zp gb]) Tryz.func155 rfl Tryz.ntmps155 rfl rfl ?_
 refine za 5 rfl ?_
 refine W_anyC [(gb,.cells 224 6 [zp sb,zp lb,.pointer none,zi G.began,zi G.done,zi G.want])] zk ?_
 refine zw [0,1,2] rfl rfl ?_
 refine WC_take 3 rfl zK zK zK rfl rfl (qj (v:=.pointer none) rfl JG rfl (qf.own (b:=gb) zM rfl)) rfl ?_
 refine WC_take 4 rfl zK zK zK rfl rfl (zz rfl rfl JG) rfl ?_
 refine zw [5,6,7,8] rfl rfl ?_
 refine Zo 9 rfl zK zK zK rfl rfl rfl rfl (qj (v:=zp lb) rfl Xd rfl (qf.own (b:=gb) zM rfl)) rfl ?_
 refine WC_one 10 zH zK rfl rfl ?_
 refine QD rfl rfl ?_
 refine qk (zc1 rfl) Tryz.call248 rfl ((qdV hL hok.n (H:=(gb,.cells 224 6 [zp sb,zp lb,.pointer none,zi G.began,zi G.done,zi G.want])::(sb,.cells 250 130 (scC G.S))::H)).hsub zH) ?_
 rintro v H' ⟨rfl,rfl⟩
 refine qs (WC_goal (zw [11] rfl rfl ?_))
 rw [ho,show decide (((0:Nat):Int)=0)=true from rfl]
 refine zw [12,13,14,15] rfl rfl ?_
 refine Zo 16 rfl zK zK zK rfl rfl rfl rfl (qj (v:=zi G.want) rfl ty3 rfl (qf.own (b:=gb) zM rfl)) rfl ?_
 refine zw [17,18,19] rfl rfl ?_
 refine Zo 20 rfl zK zK zK rfl rfl rfl rfl (qj (v:=zi G.began) rfl ty3 rfl (qf.own (b:=gb) zM rfl)) rfl ?_
 refine zw [21] rfl rfl ?_
 rw [decide_eq_true hw]
 first | refine Zo 22 rfl zK zK zK rfl rfl rfl rfl (zx rfl rfl) rfl ?_ | refine Zo 22 rfl zK zK zK rfl rfl rfl rfl (zy rfl rfl) rfl ?_
 first | refine WC_take 23 rfl zK zK zK rfl rfl (zx rfl rfl) rfl ?_ | refine WC_take 23 rfl zK zK zK rfl rfl (zy rfl rfl) rfl ?_
 refine WC_done zH zK (za 4 rfl ?_)
 refine qd (H2:=(gb,.cells 224 6 [zp sb,zp lb,.pointer none,zi G.began,zi G.done,zi G.want])::(sb,.cells 250 130 (scC G.S))::(HL++H)) Tryz.results155 rfl (.nil _) zH ?_
 exact ⟨rfl,rfl⟩
theorem qjZ (hok:JE n G) (hL:QM lb n G.Q G.last HL) (ho:qdh G.Q≠0) :qh Tryz.prog w0 155 #[zp gb] ((gb,.cells 224 6 [zp sb,zp lb,.pointer none,zi G.began,zi G.done,zi G.want])::(sb,.cells 250 130 (scC G.S))::(HL++H)) (fun v H'=>∃ xb HL',v=.slice none 0 0∧QM lb n (G.Q.map (fun q=>q.map (Yt (G.began+1)))) (G.began+1) HL'∧H'=(gb,.cells 224 6 [zp sb,zp lb,zp xb,zi (G.began+1),zi G.done,zi G.want])::(sb,.cells 250 130 (scC G.S))::(xb,.cells 485 4 [zp sb,zu ((G.S.m:Nat):Int),zi G.S.st,zi 0])::(HL'++H)):=by
 refine qc (l:=[zp gb]) Tryz.func155 rfl Tryz.ntmps155 rfl rfl ?_
 refine za 5 rfl ?_
 refine W_anyC [(gb,.cells 224 6 [zp sb,zp lb,.pointer none,zi G.began,zi G.done,zi G.want])] zk ?_
 refine zw [0,1,2] rfl rfl ?_
 refine WC_take 3 rfl zK zK zK rfl rfl (qj (v:=.pointer none) rfl JG rfl (qf.own (b:=gb) zM rfl)) rfl ?_
 refine WC_take 4 rfl zK zK zK rfl rfl (zz rfl rfl JG) rfl ?_
 refine zw [5,6,7,8] rfl rfl ?_
 refine Zo 9 rfl zK zK zK rfl rfl rfl rfl (qj (v:=zp lb) rfl Xd rfl (qf.own (b:=gb) zM rfl)) rfl ?_
 refine WC_one 10 zH zK rfl rfl ?_
 refine QD rfl rfl ?_
 refine qk (zc1 rfl) Tryz.call248 rfl ((qdV hL hok.n (H:=(gb,.cells 224 6 [zp sb,zp lb,.pointer none,zi G.began,zi G.done,zi G.want])::(sb,.cells 250 130 (scC G.S))::H)).hsub zH) ?_
 rintro v H' ⟨rfl,rfl⟩
 refine qs (WC_goal (zw [11] rfl rfl ?_))
 rw [decide_eq_false (by omega)]
 refine zw [12] rfl rfl ?_
 refine XR 13 rfl zK zK zK rfl rfl rfl rfl rfl ?_
 refine XR 14 rfl zK zK zK rfl rfl rfl rfl rfl ?_
 refine XR 15 rfl zK zK zK rfl rfl rfl rfl rfl ?_
 refine XR 16 rfl zK zK zK rfl rfl rfl rfl rfl ?_
 refine XR 17 rfl zK zK zK rfl rfl rfl rfl rfl ?_
 refine XR 18 rfl zK zK zK rfl rfl rfl rfl rfl ?_
 refine XR 19 rfl zK zK zK rfl rfl rfl rfl rfl ?_
 refine XR 20 rfl zK zK zK rfl rfl rfl rfl rfl ?_
 refine XR 21 rfl zK zK zK rfl rfl rfl rfl rfl ?_
 first | refine Zo 22 rfl zK zK zK rfl rfl rfl rfl (zx rfl rfl) rfl ?_ | refine Zo 22 rfl zK zK zK rfl rfl rfl rfl (zy rfl rfl) rfl ?_
 first | refine WC_take 23 rfl zK zK zK rfl rfl (zx rfl rfl) rfl ?_ | refine WC_take 23 rfl zK zK zK rfl rfl (zy rfl rfl) rfl ?_
 refine WC_done zH zK (za 6 rfl ?_)
 refine qe (v:=zi G.began) rfl ty3 rfl (qf.own (b:=gb) zM rfl) rfl ?_
 refine qE rfl rfl (qQ (m:=G.began+1) (zg (by have:=hok.beg; omega))) rfl ?_
 refine za 2 rfl ?_
 refine qv (l':=[zp sb,zp lb,.pointer none,zi (G.began+1),zi G.done,zi G.want]) rfl rfl ty3 rfl rfl (b:=gb) zM rfl rfl zU ?_
 refine za 2 rfl ?_
 refine W_anyC [(gb,.cells 224 6 [zp sb,zp lb,.pointer none,zi (G.began+1),zi G.done,zi G.want])] zk ?_
 refine zw [0,1,2] rfl rfl ?_
 refine WC_take 3 rfl zK zK zK rfl rfl (qj (v:=zp lb) rfl Xd rfl (qf.own (b:=gb) zM rfl)) rfl ?_
 refine zw [4,5,6] rfl rfl ?_
 refine WC_take 7 rfl zK zK zK rfl rfl (qj (v:=zi (G.began+1)) rfl ty3 rfl (qf.own (b:=gb) zM rfl)) rfl ?_
 refine WC_one 8 zH zK rfl rfl ?_
 refine qk (zc2 rfl rfl) Tryz.call249 rfl ((qeU hL hok.n (gen:=G.began+1) ⟨by have:=hok.beg; omega,by have:=hok.last; omega⟩ (H:=(gb,.cells 224 6 [zp sb,zp lb,.pointer none,zi (G.began+1),zi G.done,zi G.want])::(sb,.cells 250 130 (scC G.S))::H)).hsub zH) ?_
 rintro v H' ⟨HL',cnt,hL',rfl,rfl⟩
 refine qs (WC_goal (WC_done zH zK (za 5 rfl ?_)))
 refine qe (v:=zp sb) rfl X0 rfl (qf.own (b:=gb) zM rfl) rfl ?_
 refine qk (zc1 rfl) Tryz.call250 rfl (qdd hok.sok.len zM) ?_
 rintro v H' ⟨xb,rfl,rfl⟩
 refine za 2 rfl ?_
 refine qv (l':=[zp sb,zp lb,zp xb,zi (G.began+1),zi G.done,zi G.want]) rfl rfl JG rfl rfl (b:=gb) zM rfl rfl zU ?_
 refine za 4 rfl ?_
 refine qd (H2:=(gb,.cells 224 6 [zp sb,zp lb,zp xb,zi (G.began+1),zi G.done,zi G.want])::(sb,.cells 250 130 (scC G.S))::(xb,.cells 485 4 [zp sb,zu ((G.S.m:Nat):Int),zi G.S.st,zi 0])::(HL'++H)) Tryz.results155 rfl (.nil _) zH ?_
 exact ⟨xb,HL',rfl,hL',rfl⟩
theorem qjY (hok:JE n G) (hL:QM lb n G.Q G.last HL) (ho:qdh G.Q=0) (hw:¬ G.want≤G.began) :qh Tryz.prog w0 155 #[zp gb] ((gb,.cells 224 6 [zp sb,zp lb,.pointer none,zi G.began,zi G.done,zi G.want])::(sb,.cells 250 130 (scC G.S))::(HL++H)) (fun v H'=>∃ xb HL',v=.slice none 0 0∧QM lb n (G.Q.map (fun q=>q.map (Yt (G.began+1)))) (G.began+1) HL'∧H'=(gb,.cells 224 6 [zp sb,zp lb,zp xb,zi (G.began+1),zi G.done,zi G.want])::(sb,.cells 250 130 (scC G.S))::(xb,.cells 485 4 [zp sb,zu ((G.S.m:Nat):Int),zi G.S.st,zi 0])::(HL'++H)):=by
 refine qc (l:=[zp gb]) Tryz.func155 rfl Tryz.ntmps155 rfl rfl ?_
 refine za 5 rfl ?_
 refine W_anyC [(gb,.cells 224 6 [zp sb,zp lb,.pointer none,zi G.began,zi G.done,zi G.want])] zk ?_
 refine zw [0,1,2] rfl rfl ?_
 refine WC_take 3 rfl zK zK zK rfl rfl (qj (v:=.pointer none) rfl JG rfl (qf.own (b:=gb) zM rfl)) rfl ?_
 refine WC_take 4 rfl zK zK zK rfl rfl (zz rfl rfl JG) rfl ?_
 refine zw [5,6,7,8] rfl rfl ?_
 refine Zo 9 rfl zK zK zK rfl rfl rfl rfl (qj (v:=zp lb) rfl Xd rfl (qf.own (b:=gb) zM rfl)) rfl ?_
 refine WC_one 10 zH zK rfl rfl ?_
 refine QD rfl rfl ?_
 refine qk (zc1 rfl) Tryz.call248 rfl ((qdV hL hok.n (H:=(gb,.cells 224 6 [zp sb,zp lb,.pointer none,zi G.began,zi G.done,zi G.want])::(sb,.cells 250 130 (scC G.S))::H)).hsub zH) ?_
 rintro v H' ⟨rfl,rfl⟩
 refine qs (WC_goal (zw [11] rfl rfl ?_))
 rw [ho,show decide (((0:Nat):Int)=0)=true from rfl]
 refine zw [12,13,14,15] rfl rfl ?_
 refine Zo 16 rfl zK zK zK rfl rfl rfl rfl (qj (v:=zi G.want) rfl ty3 rfl (qf.own (b:=gb) zM rfl)) rfl ?_
 refine zw [17,18,19] rfl rfl ?_
 refine Zo 20 rfl zK zK zK rfl rfl rfl rfl (qj (v:=zi G.began) rfl ty3 rfl (qf.own (b:=gb) zM rfl)) rfl ?_
 refine zw [21] rfl rfl ?_
 rw [decide_eq_false hw]
 first | refine Zo 22 rfl zK zK zK rfl rfl rfl rfl (zx rfl rfl) rfl ?_ | refine Zo 22 rfl zK zK zK rfl rfl rfl rfl (zy rfl rfl) rfl ?_
 first | refine WC_take 23 rfl zK zK zK rfl rfl (zx rfl rfl) rfl ?_ | refine WC_take 23 rfl zK zK zK rfl rfl (zy rfl rfl) rfl ?_
 refine WC_done zH zK (za 6 rfl ?_)
 refine qe (v:=zi G.began) rfl ty3 rfl (qf.own (b:=gb) zM rfl) rfl ?_
 refine qE rfl rfl (qQ (m:=G.began+1) (zg (by have:=hok.beg; omega))) rfl ?_
 refine za 2 rfl ?_
 refine qv (l':=[zp sb,zp lb,.pointer none,zi (G.began+1),zi G.done,zi G.want]) rfl rfl ty3 rfl rfl (b:=gb) zM rfl rfl zU ?_
 refine za 2 rfl ?_
 refine W_anyC [(gb,.cells 224 6 [zp sb,zp lb,.pointer none,zi (G.began+1),zi G.done,zi G.want])] zk ?_
 refine zw [0,1,2] rfl rfl ?_
 refine WC_take 3 rfl zK zK zK rfl rfl (qj (v:=zp lb) rfl Xd rfl (qf.own (b:=gb) zM rfl)) rfl ?_
 refine zw [4,5,6] rfl rfl ?_
 refine WC_take 7 rfl zK zK zK rfl rfl (qj (v:=zi (G.began+1)) rfl ty3 rfl (qf.own (b:=gb) zM rfl)) rfl ?_
 refine WC_one 8 zH zK rfl rfl ?_
 refine qk (zc2 rfl rfl) Tryz.call249 rfl ((qeU hL hok.n (gen:=G.began+1) ⟨by have:=hok.beg; omega,by have:=hok.last; omega⟩ (H:=(gb,.cells 224 6 [zp sb,zp lb,.pointer none,zi (G.began+1),zi G.done,zi G.want])::(sb,.cells 250 130 (scC G.S))::H)).hsub zH) ?_
 rintro v H' ⟨HL',cnt,hL',rfl,rfl⟩
 refine qs (WC_goal (WC_done zH zK (za 5 rfl ?_)))
 refine qe (v:=zp sb) rfl X0 rfl (qf.own (b:=gb) zM rfl) rfl ?_
 refine qk (zc1 rfl) Tryz.call250 rfl (qdd hok.sok.len zM) ?_
 rintro v H' ⟨xb,rfl,rfl⟩
 refine za 2 rfl ?_
 refine qv (l':=[zp sb,zp lb,zp xb,zi (G.began+1),zi G.done,zi G.want]) rfl rfl JG rfl rfl (b:=gb) zM rfl rfl zU ?_
 refine za 4 rfl ?_
 refine qd (H2:=(gb,.cells 224 6 [zp sb,zp lb,zp xb,zi (G.began+1),zi G.done,zi G.want])::(sb,.cells 250 130 (scC G.S))::(xb,.cells 485 4 [zp sb,zu ((G.S.m:Nat):Int),zi G.S.st,zi 0])::(HL'++H)) Tryz.results155 rfl (.nil _) zH ?_
 exact ⟨xb,HL',rfl,hL',rfl⟩
theorem GrH.begin (hG:GrH gb n G HG) (hok:JE n G):qh Tryz.prog w0 155 #[zp gb] (HG++H) (fun v H'=>∃ HG',GrH gb n (Kr G) HG'∧v=.slice none 0 0∧H'=HG'++H):=by
 cases hG with
 | @mk sb lb sv HX HL hS hL =>
  have e1:∀ (a b:Nat × Blk) (X Y:qg),(a::b::(X++Y))++H=a::b::(X++(Y++H)):=fun a b X Y=>by simp only [List.cons_append,List.append_assoc]
  obtain ⟨S,Q,last,sc,began,done,want⟩:=G
  dsimp only at hS hL
  cases hS with
  | @some xb left bst place =>
   refine (qeY (G:=⟨S,Q,last,Option.some (left,bst,place),began,done,want⟩) (gb:=gb) (sb:=sb) (lb:=lb) (xb:=xb) List.mem_cons_self).mono ?_
   rintro v H' ⟨rfl,rfl⟩
   exact ⟨_,.mk (G:=⟨S,Q,last,Option.some (left,bst,place),began,done,want⟩) .some hL,rfl,rfl⟩
  | none =>
   rw [e1]
   by_cases ho:qdh Q=0
   ·by_cases hw:want≤began
    ·refine (qhZ (gb:=gb) (sb:=sb) (H:=H) (G:=⟨S,Q,last,none,began,done,want⟩) hok hL ho hw).mono ?_
     rintro v H' ⟨rfl,rfl⟩
     have e:Kr ⟨S,Q,last,none,began,done,want⟩=⟨S,Q,last,none,began,done,want⟩:=if_pos (.inr ⟨ho,hw⟩)
     rw [e]
     exact ⟨_,.mk (G:=⟨S,Q,last,none,began,done,want⟩) .none hL,rfl,by rw [e1]; rfl⟩
    ·refine (qjY (gb:=gb) (sb:=sb) (H:=H) (G:=⟨S,Q,last,none,began,done,want⟩) hok hL ho hw).mono ?_
     rintro v H' ⟨xb,HL',rfl,hL',rfl⟩
     have e:Kr ⟨S,Q,last,none,began,done,want⟩=⟨S,Q.map (fun q=>q.map (Yt (began+1))),began+1,Option.some (S.m,S.st,0),began+1,done,want⟩:=if_neg (by rintro (h | h); cases h; exact hw h.2)
     rw [e]
     exact ⟨_,.mk .some hL',rfl,by rw [e1]; rfl⟩
   ·refine (qjZ (gb:=gb) (sb:=sb) (H:=H) (G:=⟨S,Q,last,none,began,done,want⟩) hok hL ho).mono ?_
    rintro v H' ⟨xb,HL',rfl,hL',rfl⟩
    have e:Kr ⟨S,Q,last,none,began,done,want⟩=⟨S,Q.map (fun q=>q.map (Yt (began+1))),began+1,Option.some (S.m,S.st,0),began+1,done,want⟩:=if_neg (by rintro (h | h); cases h; exact ho h.1)
    rw [e]
    exact ⟨_,.mk .some hL',rfl,by rw [e1]; rfl⟩
theorem JE.look (h:JE n G):JE n (ZS G).1:=by
 obtain ⟨S,Q,last,sc,began,done,want⟩:=G
 cases sc with
 | none=>exact h
 | some x =>
  unfold ZS; dsimp only
  split
  ·exact ⟨h.sok,h.n,fun l b p e=>(by cases e; exact qeE _ _ _ (h.left _ _ _ rfl)),h.last,h.beg,h.st⟩
  ·exact ⟨h.sok,h.n,fun l b p e=>(by cases e),h.last,h.beg,h.st⟩
theorem JE.begin (h:JE n G) (hb:G.began<1000000000):JE n (Kr G):=by
 unfold Kr
 split
 ·exact h
 ·have hb2:=h.beg
  exact ⟨h.sok,h.n,fun l b p e=>(by cases e; exact h.sok.m64),Int.le_refl _,by show 0≤G.began+1∧G.began+1≤1000000000; omega,h.st⟩
def zY (G:Gr):Gr × List Int:=(Kr (ZS G).1,(ZS G).2)
theorem qa2 (G:Gr):(ZS G).1.began=G.began:=by
 unfold ZS
 split
 ·rfl
 ·split <;> rfl
theorem qac (h:GrH gb n G HG):(ZS G).2.length≤64*n:=by
 cases h with
 | @mk sb lb sv HX HL hS hL =>
  have:=hL.facts
  unfold ZS
  split
  ·exact Nat.zero_le _
  ·split
   ·exact Nat.zero_le _
   ·have h2:=qdI (gen:=G.began) this.2
    rw [this.1] at h2
    exact h2
theorem GrH.poll (hG:GrH gb n G HG) (hok:JE n G) (hb:G.began<1000000000) (hT:Tab w0):qh Tryz.prog w0 69 #[zp gb] (HG++H) (fun v H'=>∃ HG' XO,GrH gb n (zY G).1 HG'∧zm 3 1 v (zY G).2.length ((zY G).2.map (Value.int .i64)) XO∧H'=XO++(HG'++H)):=by
 refine qc (l:=[zp gb]) Tryz.func69 rfl Tryz.ntmps69 rfl rfl ?_
 refine za 6 rfl ?_
 refine W_x (qr rfl rfl qaS) (fun _ h=>by cases h) rfl ?_
 refine za 8 rfl ?_
 refine qgk (l:=[(.func (.func 154) #[] #[]),(.func (.func 155) #[] #[])]) qiR qiS (.cons rfl rfl rfl rfl rfl (.cons rfl rfl rfl rfl rfl .nil)) rfl rfl rfl ?_
 refine za 3 rfl ?_
 refine qU (X:=(Nat × Gr × qg × Value × qg × List Int)) [(0,_),(8,_)] (fun (z:(Nat × Gr × qg × Value × qg × List Int))=>[(9,zi (z.1:Int)),(3,z.2.2.2.1)]) (fun _=>_) (fun (z:(Nat × Gr × qg × Value × qg × List Int))=>z.2.2.2.2.1++(z.2.2.1++H)) (fun (z:(Nat × Gr × qg × Value × qg × List Int))=>z.1≤2∧GrH gb n z.2.1 z.2.2.1∧JE n z.2.1∧(z.1=0→z.2.1=G∧z.2.2.2.2.2=[])∧(z.1=1→z.2.1=(ZS G).1∧z.2.2.2.2.2=(ZS G).2)∧(z.1=2→z.2.1=(zY G).1∧z.2.2.2.2.2=(ZS G).2)∧zm 3 1 z.2.2.2.1 z.2.2.2.2.2.length (z.2.2.2.2.2.map (Value.int .i64)) z.2.2.2.2.1) (fun (z:(Nat × Gr × qg × Value × qg × List Int))=>2-z.1) (0,G,HG,.slice none 0 0,[],[]) ⟨Nat.zero_le _,hG,hok,fun _=>⟨rfl,rfl⟩,fun h=>(by cases h),fun h=>(by cases h),.nil⟩ (qa rfl (qa rfl (qi _))) (qa rfl (qa rfl (qi _))) rfl (show qC _ ([]++(HG++H)) from .refl _) ?_
 rintro ⟨i,G1,HG1,xv,XB,ids⟩ ⟨hi,hG1,hok1,h0,h1,h2,hO⟩
 dsimp only at hi hG1 hok1 h0 h1 h2 hO ⊢
 simp only [List.cons_append,List.nil_append]
 refine za 4 rfl ?_
 refine qm (p:=i<2) rfl (by rw [decide_eq_true_eq]; omega) (fun q0=>?_) (fun q0=>?_)
 ·skip
  refine za 4 rfl ?_
  rcases (show i=0∨i=1 by omega) with rfl | rfl
  ·skip
   refine qcX (v:=(.func (.func 154) #[] #[])) (j:=0) rfl rfl qiR qiS rfl rfl zd rfl rfl ?_
   refine za 6 rfl ?_
   obtain ⟨eG,eI⟩:=h0 rfl
   have htl:=qac hG1
   have hn:=hok.n
   refine Yx (fa:=#[]) (ca:=#[]) rfl (.cons rfl .nil) Tryz.call154 rfl ((hG1.look hok1 hT (H:=XB++H)).hsub zH) ?_
   rintro v H' ⟨HG2,XO,hG2,hXO,rfl⟩
   obtain ⟨ad2,cap2,rfl,hh2⟩:∃ ad2 cap2,v=.slice ad2 (ZS G1).2.length cap2∧Holds w0 (XO++(HG2++(XB++H))) ad2 ((ZS G1).2.map (Value.int .i64)):=by
    obtain ⟨ad2,cap2,e,h3,h4,h5⟩:=Holds.of_own (w0:=w0) (H:=XO++(HG2++(XB++H))) hXO (fun p hp=>List.mem_append_left _ hp)
    exact ⟨ad2,cap2,e,h5⟩
   refine Qv (news:=(ZS G1).2.map (Value.int .i64)) (m:=(ZS G1).2.length) (HB:=XB) (H0:=XO++(HG2++H)) rfl rfl qZ ty3 rfl (by decide) hO (by rw [List.length_map,Nat.mul_one]) hh2 (by rw [List.all_map,List.all_eq_true]; exact fun _ _=>rfl) (by rw [eI]; simp only [maxLen,List.length_nil]; omega) (by rw [eI]; simp only [List.length_nil]; omega) zH rfl (fun xv' XB' hO'=>?_)
   refine za 4 rfl ?_
   refine qE rfl rfl (qQ (m:=1) rfl) rfl ?_
   refine za 2 rfl ?_
   refine qP (1,(ZS G1).1,HG2,xv',XB',ids++(ZS G1).2) ⟨by show 1≤2; decide,hG2,hok1.look,fun h=>(by cases h),fun _=>by obtain ⟨rfl,rfl⟩:=h0 rfl; exact ⟨rfl,rfl⟩,fun h=>(by cases h),by show zm _ 1 xv' (ids++_).length ((ids++_).map _) XB'; rw [List.length_append,List.map_append]; exact hO'⟩ (by show 2-1<2-0; decide) (qa rfl (qa rfl (qa rfl (qa rfl (qi _))))) rfl zH
  ·skip
   refine qcX (v:=(.func (.func 155) #[] #[])) (j:=1) rfl rfl qiR qiS rfl rfl zd rfl rfl ?_
   refine za 6 rfl ?_
   refine Yx (fa:=#[]) (ca:=#[]) rfl (.cons rfl .nil) Tryz.call155 rfl ((hG1.begin hok1 (H:=XB++H)).hsub zH) ?_
   rintro v H' ⟨HG2,hG2,rfl,rfl⟩
   obtain ⟨eG,eI⟩:=h1 rfl
   have htl:=qac hG
   have hn:=hok.n
   refine Qv (news:=[]) (m:=0) (HB:=XB) (H0:=HG2++H) rfl rfl qZ ty3 rfl (by decide) hO rfl (fun j x hx=>by simp at hx) rfl (by rw [eI]; simp only [maxLen]; omega) (by rw [eI]; omega) zH rfl (fun xv' XB' hO'=>?_)
   refine za 4 rfl ?_
   refine qE rfl rfl (qQ (m:=2) rfl) rfl ?_
   refine za 2 rfl ?_
   refine qP (2,Kr G1,HG2,xv',XB',ids) ⟨by show 2≤2; decide,hG2,hok1.begin (by rw [(h1 rfl).1,qa2]; exact hb),fun h=>(by cases h),fun h=>(by cases h),fun _=>by obtain ⟨rfl,rfl⟩:=h1 rfl; exact ⟨rfl,rfl⟩,by simpa using hO'⟩ (by show 2-2<2-1; decide) (qa rfl (qa rfl (qa rfl (qa rfl (qi _))))) rfl zH
 ·skip
  refine za 5 rfl ?_
  refine qd (H2:=XB++(HG1++H)) Tryz.results69 rfl (.nil _) zH ?_
  obtain rfl:i=2:=by omega
  obtain ⟨rfl,rfl⟩:=h2 rfl
  exact ⟨HG1,XB,hG1,hO,rfl⟩
def qbG (cpu:Int):List Int→List (Int × Int)→List (Int × Int) × Int
 | [],Q=>(Q,0)
 | id::l,Q=>if ¬ (0≤id∧id<256) then (Q,2) else if (whQ Q id).isSome=true then (Q,5) else qbG cpu l (Q++[(id,cpu)])
def Za (n:Nat) (Q:List (Int × Int)) (cpu:Int) (l:List Int):List (Int × Int) × Int:=if cpu<0∨(n:Int)≤cpu then (Q,2) else qbG cpu l Q
theorem qaW (Q:List (Int × Int)) (id k j:Int):QQ (Q++[(id,k)]) j=QQ Q j++(if k=j then [id] else []):=by
 unfold QQ
 rw [List.filter_append,List.map_append]
 congr 1
 by_cases c:k=j
 ·rw [if_pos c]; simp [c]
 ·rw [if_neg c]; simp [c]
theorem QOk.snoc (h:QOk n Q) {k:Int} (hr:0≤id∧id<256) (hk:0≤k∧k<(n:Int)) (hw:whQ Q id=none):QOk n (Q++[(id,k)]):=by
 refine ⟨?_,fun p hp=>?_⟩
 ·rw [List.map_append,List.nodup_append]
  refine ⟨h.ids,by simp,fun x hx y hy e=>?_⟩
  obtain ⟨p,hp,rfl⟩:=List.mem_map.1 hx
  have hy2:y=id:=by simpa using hy
  have h1:=(Xb h (id:=id) (k:=p.2)).2 (by rw [← hy2,← e]; exact hp)
  rw [hw] at h1; cases h1
 ·rcases List.mem_append.1 hp with hp | hp
  ·exact h.rng p hp
  ·rw [List.mem_singleton.1 hp]; exact ⟨hr,hk⟩
def ZC (Q:List (Int × Int)) (id:Int):List (Int × Int):=Q.filter (fun p=>decide (p.1≠id))
theorem QOk.del (h:QOk n Q) (id:Int):QOk n (ZC Q id):=⟨h.ids.sublist (List.filter_sublist.map _),fun p hp=>h.rng p (List.mem_filter.1 hp).1⟩
theorem qnW (h:QOk n Q) (hw:whQ Q id=none):ZC Q id=Q:=List.filter_eq_self.2 fun p hp=>decide_eq_true (fun e=>by
 have h1:=(Xb h (id:=id) (k:=p.2)).2 (by rw [← e]; exact hp)
 rw [hw] at h1; cases h1)
theorem Ka:∀ {l:List Int} {i:Nat} {x:Int},l.Nodup→l[i]?=some x→l.eraseIdx i=l.filter (fun y=>decide (y≠x))
 | y::l,0,x,hn,h=>by
  obtain rfl:y=x:=by simpa using h
  rw [List.nodup_cons] at hn
  rw [List.filter_cons_of_neg (by simp),List.eraseIdx_zero,List.tail_cons]
  exact (List.filter_eq_self.2 fun z hz=>decide_eq_true (p:=z≠y) (fun (e:z=y)=>hn.1 (e ▸ hz))).symm
 | y::l,i+1,x,hn,h=>by
  rw [List.nodup_cons] at hn
  have hx:l[i]?=some x:=by simpa using h
  rw [List.eraseIdx_cons_succ,List.filter_cons_of_pos (by simpa using fun e:y=x=>hn.1 (e ▸ List.mem_of_getElem? hx)),Ka hn.2 hx]
theorem qeA (Q:List (Int × Int)) (id k:Int):QQ (ZC Q id) k=(QQ Q k).filter (fun y=>decide (y≠id)):=by
 unfold QQ ZC
 rw [List.filter_map,List.filter_filter,List.filter_filter]
 congr 1
 refine List.filter_congr fun p _=>?_
 simp [Bool.and_comm]
theorem qez (h:QOk n Q) {k:Int} (hi:(QQ Q k)[i]?=some id):QQ (ZC Q id) k=(QQ Q k).eraseIdx i:=by
 rw [qeA,Ka (qcb h k).1 hi]
theorem qcc (h:QOk n Q) {k j:Int} (hm:(id,k)∈Q) (hj:j≠k):QQ (ZC Q id) j=QQ Q j:=by
 rw [qeA]
 refine List.filter_eq_self.2 fun y hy=>decide_eq_true (fun e=>hj ?_)
 subst e
 have h1:=(Xb h).2 (qao.1 hy)
 rw [(Xb h).2 hm] at h1
 exact (Option.some.inj h1).symm
def QJ (Q:List (Int × Int)) (l:List Int):List (Int × Int) × Nat:=l.foldl (fun s id=>(ZC s.1 id,s.2+if (whQ s.1 id).isSome=true then 1 else 0)) (Q,0)
theorem qcL {l:List Int} {x:Int} (h:l[i]?=some x):QJ Q (l.take (i+1))=(ZC (QJ Q (l.take i)).1 x,(QJ Q (l.take i)).2+if (whQ (QJ Q (l.take i)).1 x).isSome=true then 1 else 0):=by
 unfold QJ
 rw [Jt h,List.foldl_append]; rfl
theorem qcK (Q:List (Int × Int)) (l:List Int):∀ i,i≤l.length→(QJ Q (l.take i)).2≤i
 | 0,_=>by rw [List.take_zero]; exact Nat.le_refl _
 | i+1,h=>by
  obtain ⟨x,hx⟩:∃ x,l[i]?=some x:=⟨_,List.getElem?_eq_getElem zO⟩
  rw [qcL hx]
  have:=qcK Q l i zO
  dsimp only
  split <;> omega
theorem qqz (hP:zb pb n Q Rs HB) (hn:n≤64) {cpu:Int} (hc:cpu<0∨(n:Int)≤cpu) :qh Tryz.prog w0 94 #[zp pb,zi cpu,.slice ad ids.length cap] (HB++H) (fun v H'=>∃ HB',zb pb n (Za n Q cpu ids).1 Rs HB'∧v=zi (Za n Q cpu ids).2∧H'=HB'++H):=by
 refine qc (l:=[zp pb,zi cpu,.slice ad ids.length cap]) Tryz.func94 rfl Tryz.ntmps94 rfl rfl ?_
 refine za 7 rfl ?_
 refine W_x (qr rfl rfl Zf) (fun _ h=>by cases h) rfl ?_
 refine za 6 rfl ?_
 refine qn (zc2 rfl rfl) Tryz.call182 rfl (hP.noq hn hc (fun p hp=>List.mem_append_left _ hp)) ?_
 refine W_x (qr rfl rfl Yz) (fun _ h=>by cases h) rfl ?_
 refine za 6 rfl ?_
 refine qd (H2:=HB++H) Tryz.results94 rfl (.nil _) zH ?_
 unfold Za; rw [if_pos hc]
 exact ⟨HB,hP,rfl,rfl⟩
theorem qqA (hP:zb pb n Q Rs HB) (hn:n≤64) (hil:ids.length≤1000000) (hrow:Holds w0 H ad (ids.map (Value.int .i64))) (hk:k<n) :qh Tryz.prog w0 94 #[zp pb,zi (k:Int),.slice ad ids.length cap] (HB++H) (fun v H'=>∃ HB',zb pb n (Za n Q (k:Int) ids).1 Rs HB'∧v=zi (Za n Q (k:Int) ids).2∧H'=HB'++H):=by
 refine qc (l:=[zp pb,zi (k:Int),.slice ad ids.length cap]) Tryz.func94 rfl Tryz.ntmps94 rfl rfl ?_
 refine za 7 rfl ?_
 refine W_x (qr rfl rfl Zf) (fun _ h=>by cases h) rfl ?_
 refine za 6 rfl ?_
 obtain ⟨rb,X,HR,hR,hqu,ho1,ho2,hup⟩:=hP.at hn hk
 refine qn (zc2 rfl rfl) Tryz.call182 rfl (hqu (fun p hp=>List.mem_append_left _ hp)) ?_
 refine W_x (qr rfl rfl Yz) (fun _ h=>by cases h) rfl ?_
 refine za 8 rfl (zZ rfl qZ rfl rfl (za 3 rfl ?_))
 refine qU (X:=(Nat × List (Int × Int) × qg)) [(0,_),(1,_),(19,_),(20,_)] (fun (x:(Nat × List (Int × Int) × qg))=>[(21,zi (x.1:Int))]) (fun _=>_) (fun (x:(Nat × List (Int × Int) × qg))=>x.2.2++H) (fun (x:(Nat × List (Int × Int) × qg))=>x.1≤ids.length∧zb pb n x.2.1 Rs x.2.2∧qbG (k:Int) ids Q=qbG (k:Int) (ids.drop x.1) x.2.1) (fun (x:(Nat × List (Int × Int) × qg))=>ids.length-x.1) (0,Q,HB) ⟨Nat.zero_le _,hP,rfl⟩ (qa rfl (qa rfl (qa rfl (qa rfl (qi _))))) (qa rfl (qi _)) rfl (.refl _) ?_
 rintro ⟨i,Qi,HBi⟩ ⟨hi,hPi,hA⟩
 dsimp only at hi hPi hA ⊢
 simp only [List.cons_append,List.nil_append]
 refine za 4 rfl ?_
 refine qm (p:=(i:Int)<(ids.length:Int)) rfl (by simp) (fun q0=>?_) (fun q0=>?_)
 ·skip
  refine za 4 rfl ?_
  obtain ⟨x,hx⟩:∃ x,ids[i]?=some x:=⟨_,List.getElem?_eq_getElem zO⟩
  have hdr:ids.drop i=x::ids.drop (i+1):=by rw [List.drop_eq_getElem_cons (by omega)]; congr 1; exact (List.getElem?_eq_some_iff.1 hx).2
  obtain ⟨q0,p0,rfl,hcx⟩:=hrow.at (i:=i) (v:=.int .i64 x) (by rw [List.getElem?_map,hx]; rfl)
  refine qS (j:=i) rfl rfl qZ ty3 rfl zO rfl rfl ?_
  refine qe (v:=zi x) rfl ty3 rfl (by rw [Nat.mul_one]; exact hcx.up zH) rfl ?_
  refine za 5 rfl ?_
  refine qT (zc1 rfl) Tryz.call183 rfl (T:=fun _=>True) trivial (KY (id:=x)) ?_
  by_cases hxr:0≤x∧x<256
  ·skip
   rw [show (decide (0≤x) && decide (x<256))=true by simp; omega]
   refine za 8 rfl ?_
   refine qk (zc2 rfl rfl) Tryz.call99 rfl (qeg (id:=x) hPi hn) ?_
   rintro v H' ⟨rfl,rfl⟩
   rcases hw:whQ Qi x with _ | c
   ·skip
    refine za 14 rfl ?_
    obtain ⟨rb,X,HR,hR,hqu,ho1,ho2,hup⟩:=hPi.at hn hk
    refine qn (zc2 rfl rfl) Tryz.call182 rfl (hqu (fun p hp=>List.mem_append_left _ hp)) ?_
    refine qD rfl rfl ?_
    refine qy (l:=[zi x]) qZ ty3 (.cons rfl rfl rfl rfl rfl .nil) rfl rfl rfl rfl rfl rfl rfl (fun b39=>?_)
    have hqn:=hPi.ok.snoc hxr ⟨by omega,by omega⟩ hw (k:=(k:Int))
    have hql:=qey hqn (k:Int)
    rw [qaW,if_pos rfl,List.length_append,List.length_singleton] at hql
    refine qO (H':=X++((b39,.cells 3 1 [zi x])::(HR++H))) ((show qC _ ((b39,.cells 3 1 [zi x])::(HBi++H)) from zH).trans ((qC.cons (.here _) (ho1 H)).trans zH)) ?_
    refine qk (zc2 rfl rfl) Tryz.call184 rfl (qm4 (xs:=[x]) hR (show 1≤1000000 by decide) (by exact Nat.le_refl 1) (Holds.own (b:=b39) zM)) ?_
    rintro v H' ⟨X',hR',rfl,rfl⟩
    rw [List.take_of_length_le (by show 1≤_; simp only [List.length_singleton]; omega)] at hR'
    obtain ⟨HBn,hPn,hin⟩:=hup (Qi++[(x,(k:Int))]) X' (by rw [qaW,if_pos rfl]; exact hR') (fun j hj=>by rw [qaW,if_neg (by omega),List.append_nil]) hqn
    refine qO (H':=HBn++H) ((show qC _ (X'++(HR++H)) from zH).trans (hin H)) ?_
    refine za 3 rfl ?_
    refine qE rfl rfl (qQ (m:=((i+1:Nat):Int)) (by rw [zg (by omega)]; omega)) rfl ?_
    refine za 2 rfl ?_
    refine qP (i+1,Qi++[(x,(k:Int))],HBn) ⟨by show i+1≤ids.length; omega,hPn,by rw [hA,hdr,qbG,if_neg (fun h=>h hxr),if_neg (by rw [hw]; decide)]⟩ (by show ids.length-(i+1)<ids.length-i; omega) (qa rfl (qa rfl (qa rfl (qa rfl (qa rfl (qi _)))))) rfl zH
   ·skip
    refine za 13 rfl ?_
    refine qd (H2:=HBi++H) Tryz.results94 rfl (.nil _) zH ?_
    have e:Za n Q (k:Int) ids=qbG (k:Int) ids Q:=if_neg zO
    rw [e,hA,hdr,qbG,if_neg (fun h=>h hxr),if_pos (by rw [hw]; rfl)]
    exact ⟨HBi,hPi,rfl,rfl⟩
  ·skip
   rw [show (decide (0≤x) && decide (x<256))=false by simp; omega]
   refine za 6 rfl ?_
   refine qd (H2:=HBi++H) Tryz.results94 rfl (.nil _) zH ?_
   have e:Za n Q (k:Int) ids=qbG (k:Int) ids Q:=if_neg zO
   rw [e,hA,hdr,qbG,if_pos hxr]
   exact ⟨HBi,hPi,rfl,rfl⟩
 ·skip
  refine za 4 rfl ?_
  refine qd (H2:=HBi++H) Tryz.results94 rfl (.nil _) zH ?_
  obtain rfl:i=ids.length:=by omega
  have e:Za n Q (k:Int) ids=qbG (k:Int) ids Q:=if_neg zO
  rw [e,hA,List.drop_length]
  exact ⟨HBi,hPi,rfl,rfl⟩
theorem qo1 (hP:zb pb n Q Rs HB) (hn:n≤64) {cpu:Int} (hil:ids.length≤1000000) (hrow:Holds w0 H ad (ids.map (Value.int .i64))):qh Tryz.prog w0 94 #[zp pb,zi cpu,.slice ad ids.length cap] (HB++H) (fun v H'=>∃ HB',zb pb n (Za n Q cpu ids).1 Rs HB'∧v=zi (Za n Q cpu ids).2∧H'=HB'++H):=by
 by_cases h:cpu<0∨(n:Int)≤cpu
 ·exact qqz hP hn h
 ·obtain ⟨k,rfl⟩:∃ k:Nat,cpu=(k:Int):=⟨cpu.toNat,by omega⟩
  exact qqA hP hn hil hrow zO
theorem qaY (hP:zb pb n Q Rs HB) (hn:n≤64) (hil:ids.length≤1000000) (hrow:Holds w0 H ad (ids.map (Value.int .i64))) :qh Tryz.prog w0 179 #[zp pb,.slice ad ids.length cap] (HB++H) (fun v H'=>∃ HB',zb pb n (QJ Q ids).1 Rs HB'∧v=zi (((QJ Q ids).2:Nat):Int)∧H'=HB'++H):=by
 refine qc (l:=[zp pb,.slice ad ids.length cap]) Tryz.func179 rfl Tryz.ntmps179 rfl rfl ?_
 refine za 9 rfl (zZ rfl qZ rfl rfl (za 3 rfl ?_))
 refine qU (X:=(Nat × qg)) [(0,_),(11,_),(12,_)] (fun (x:(Nat × qg))=>[(5,zi (((QJ Q (ids.take x.1)).2:Nat):Int)),(13,zi (x.1:Int))]) (fun _=>_) (fun (x:(Nat × qg))=>x.2++H) (fun (x:(Nat × qg))=>x.1≤ids.length∧zb pb n (QJ Q (ids.take x.1)).1 Rs x.2) (fun (x:(Nat × qg))=>ids.length-x.1) (0,HB) ⟨Nat.zero_le _,by rw [List.take_zero]; exact hP⟩ (qa rfl (qa rfl (qa rfl (qi _)))) (qa rfl (qa rfl (qi _))) rfl (.refl _) ?_
 rintro ⟨i,HBi⟩ ⟨hi,hPi⟩
 dsimp only at hi hPi ⊢
 have hdl:=qcK Q ids i hi
 simp only [List.cons_append,List.nil_append]
 refine za 4 rfl ?_
 refine qm (p:=(i:Int)<(ids.length:Int)) rfl (by simp) (fun q0=>?_) (fun q0=>?_)
 ·skip
  refine za 4 rfl ?_
  obtain ⟨x,hx⟩:∃ x,ids[i]?=some x:=⟨_,List.getElem?_eq_getElem zO⟩
  obtain ⟨q0,p0,rfl,hcx⟩:=hrow.at (i:=i) (v:=.int .i64 x) (by rw [List.getElem?_map,hx]; rfl)
  refine qS (j:=i) rfl rfl qZ ty3 rfl zO rfl rfl ?_
  refine qe (v:=zi x) rfl ty3 rfl (by rw [Nat.mul_one]; exact hcx.up zH) rfl ?_
  refine qp (l:=[zi 0]) ty3 rfl rfl (fun b7=>?_)
  refine qv (l':=[zi x]) rfl rfl ty3 rfl rfl (b:=b7) zM rfl rfl zU ?_
  refine za 3 rfl (qI .nil (.cons rfl .nil) rfl ?_)
  refine qk (zc2 rfl rfl) Tryz.call189 rfl ((qlp (bi:=b7) (fi:=265) (id:=x) (H:=(b7,.cells 3 1 [zi x])::H) hPi hn zM Tryz.call265 (fun x H hb=>dec_q hb)).hsub zH) ?_
  rintro v H' ⟨hF,rfl⟩
  rcases hF.wh hPi.ok with ⟨rfl,hw⟩ | ⟨k,j,rfl,hk,hki,hw⟩
  ·skip
   refine za 15 rfl ?_
   refine qE rfl rfl (qQ (m:=((i+1:Nat):Int)) (by rw [zg (by omega)]; omega)) rfl ?_
   refine za 2 rfl ?_
   have hat:QJ Q (ids.take (i+1))=(ZC (QJ Q (ids.take i)).1 x,(QJ Q (ids.take i)).2+0):=by rw [qcL hx,hw]; rfl
   have hPn:zb pb n (QJ Q (ids.take (i+1))).1 Rs HBi:=by rw [hat,qnW hPi.ok hw]; exact hPi
   refine qP (i+1,HBi) ⟨by show i+1≤ids.length; omega,hPn⟩ (by show ids.length-(i+1)<ids.length-i; omega) (qa (by rw [hat]; rfl) (qa rfl (qa rfl (qa rfl (qa rfl (qi _)))))) rfl zH
  ·skip
   refine za 15 rfl ?_
   obtain ⟨rb,X,HR,hR,hqu,ho1,ho2,hup⟩:=hPi.at hn hk
   refine qn (zc2 rfl rfl) Tryz.call182 rfl (hqu (fun p hp=>List.mem_append_left _ hp)) ?_
   refine qD rfl rfl ?_
   have hm:(x,(k:Int))∈(QJ Q (ids.take i)).1:=qao.1 (List.mem_of_getElem? hki)
   refine qO (H':=X++(HR++H)) ((show qC _ (HBi++H) from zH).trans (ho1 H)) ?_
   refine qk (zc2 rfl rfl) Tryz.call266 rfl (qm3 hR hki) ?_
   rintro v H' ⟨X',hR',rfl,rfl⟩
   obtain ⟨HBn,hPn,hin⟩:=hup (ZC (QJ Q (ids.take i)).1 x) X' (by rw [qez hPi.ok hki]; exact hR') (fun j hj=>qcc hPi.ok hm (by omega)) (hPi.ok.del x)
   refine qO (H':=HBn++H) (hin H) ?_
   refine za 3 rfl ?_
   refine qE rfl rfl (qQ (m:=(((QJ Q (ids.take i)).2+1:Nat):Int)) (by rw [zg (by omega)]; omega)) rfl ?_
   refine za 4 rfl ?_
   refine qE rfl rfl (qQ (m:=((i+1:Nat):Int)) (by rw [zg (by omega)]; omega)) rfl ?_
   refine za 2 rfl ?_
   have hat:QJ Q (ids.take (i+1))=(ZC (QJ Q (ids.take i)).1 x,(QJ Q (ids.take i)).2+1):=by rw [qcL hx,hw]; rfl
   rw [← show (QJ Q (ids.take (i+1))).1=ZC (QJ Q (ids.take i)).1 x from by rw [hat]] at hPn
   refine qP (i+1,HBn) ⟨by show i+1≤ids.length; omega,hPn⟩ (by show ids.length-(i+1)<ids.length-i; omega) (qa (by rw [hat]; rfl) (qa rfl (qa rfl (qa rfl (qa rfl (qi _)))))) rfl zH
 ·skip
  refine za 5 rfl ?_
  refine qd (H2:=HBi++H) Tryz.results179 rfl (.nil _) zH ?_
  obtain rfl:i=ids.length:=by omega
  rw [List.take_length] at hPi ⊢
  exact ⟨HBi,hPi,rfl,rfl⟩
theorem qhK (o:Option Int):(o=none∧ZU o=.tuple #[zi 0,.bool false])∨∃ x,o=some x∧ZU o=.tuple #[zi x,.bool true]:=by
 cases o with
 | none=>exact .inl ⟨rfl,rfl⟩
 | some x=>exact .inr ⟨x,rfl,rfl⟩
def qbf (n:Nat) (Q Rs:List (Int × Int)) (cpu c:Int):List (Int × Int) × List (Int × Int) × Int × Int :=
 if (cpu<0∨(n:Int)≤cpu)∨c<0∨32≤c then (Q,Rs,0,2)
 else if (ofR Rs c).isSome=true then (Q,Rs,0,5)
 else match QQ Q cpu with
  | []=>(Q,Rs,0,4)
  | x::_=>if (inR Rs x).isSome=true then (Q,Rs,0,21) else (ZC Q x,Rs++[(x,c)],x,0)
theorem J9.reads {R:Nat} {l:List Int} (h:J9 R rb l X) (hm:∀ p∈X,p∈H):(∀ z:Int,qB Tryz.prog w0 H 273 [zp rb,zi z] (atV l z))∧qB Tryz.prog w0 H 192 [zp rb] (zi (l.length:Int)):=by
 cases h with
 | mk hI=>exact ⟨fun z=>qjm hI (hm _ List.mem_cons_self) (hm _ (List.mem_cons_of_mem _ List.mem_cons_self)),qjl (hm _ List.mem_cons_self)⟩
theorem zb.ring (h:zb pb n Q Rs HB) (hn:n≤64) (hk:k<n):∃ rb X,J9 256 rb (QQ Q (k:Int)) X∧(∀ p∈X,p∈HB)∧(∀ {w0:World} {H:qg},(∀ p∈HB,p∈H)→qB Tryz.prog w0 H 182 [zp pb,zi (k:Int)] (rbP rb)):=by
 cases h with
 | @mk v XQ XS rbs rn of_ hv hl hr hrun hq =>
  have hvl:=hv.length
  rw [List.length_map,Nat.mul_one] at hvl
  obtain ⟨rb,hrb⟩:∃ rb,rbs[k]?=some rb:=⟨_,List.getElem?_eq_getElem zO⟩
  obtain ⟨X,hX⟩:∃ X,XS[k]?=some X:=⟨_,List.getElem?_eq_getElem zO⟩
  refine ⟨rb,X,hr k rb X hrb hX,fun p hp=>List.mem_cons_of_mem _ (List.mem_append_right _ (List.mem_flatten.2 ⟨X,List.mem_of_getElem? hX,hp⟩)),fun {w0 H} hm=>?_⟩
  obtain ⟨ad,cap,rfl,_,_,hrow⟩:=Holds.of_own (w0:=w0) (H:=H) hv (fun p hp=>hm p (List.mem_cons_of_mem _ (List.mem_append_left _ hp)))
  exact qca (n:=n) (hm _ List.mem_cons_self) hrow zO hn hrb
theorem qcZ (hP:zb pb n Q Rs HB) (hn:n≤64) (hk:k<n) (hj:j<32) (ho:ofR Rs (j:Int)=none) (he:QQ Q (k:Int)=[]) :qh Tryz.prog w0 102 #[zp pb,zi (k:Int),zi (j:Int)] (HB++H) (fun v H'=>∃ HB',zb pb n (qbf n Q Rs (k:Int) (j:Int)).1 (qbf n Q Rs (k:Int) (j:Int)).2.1 HB'∧v=.tuple #[zi (qbf n Q Rs (k:Int) (j:Int)).2.2.1,zi (qbf n Q Rs (k:Int) (j:Int)).2.2.2]∧H'=HB'++H):=by
 obtain ⟨v0,XX,rn,of_,rfl,hRun,hRup⟩:=hP.runs
 obtain ⟨y,hy⟩:∃ y,of_[j]?=some y:=⟨_,List.getElem?_eq_getElem (by rw [hRun.len2]; exact hj)⟩
 have hyb:=hRun.b2 y (List.mem_of_getElem? hy)
 have hoj:=qfS hRun hy
 obtain ⟨rb,X,hR,hXm,hqu⟩:=hP.ring hn hk
 have hy0:y=0:=by
  by_cases e:y=0
  ·exact e
  ·rw [ho,if_neg e] at hoj; cases hoj
 subst hy0
 refine qc (l:=[zp pb,zi (k:Int),zi (j:Int)]) Tryz.func102 rfl Tryz.ntmps102 rfl rfl ?_
 refine za 8 rfl ?_
 refine W_x (qr rfl rfl Zf) (fun _ h=>by cases h) rfl ?_
 refine za 6 rfl ?_
 refine qn (zc2 rfl rfl) Tryz.call182 rfl (hqu (fun p hp=>List.mem_append_left _ hp)) ?_
 refine W_x (qr rfl rfl Yz) (fun _ h=>by cases h) rfl ?_
 refine za 5 rfl ?_
 first | rw [decide_eq_true (by omega)] | rw [decide_eq_false (by omega)]
 refine za 6 rfl ?_
 first | rw [decide_eq_true (by omega)] | rw [decide_eq_false (by omega)]
 refine za 9 rfl ?_
 refine Qe (j:=j) rfl rfl qfu ty3 (by first | rfl | omega) (by first | decide | omega | simp) rfl rfl ?_
 refine qe (v:=zi 0) rfl ty3 rfl (qf.own (b:=pb) List.mem_cons_self (by simpa using qcg hRun.len1 hy)) rfl ?_
 refine za 7 rfl ?_
 refine qn (zc2 rfl rfl) Tryz.call182 rfl (hqu (fun p hp=>List.mem_append_left _ hp)) ?_
 refine qn (zc1 rfl) Tryz.call192 rfl (hR.reads (w0:=w0) (fun p hp=>List.mem_append_left _ (hXm p hp))).2 ?_
 rw [he]
 refine za 8 rfl ?_
 refine qL (H2:=((pb,.cells 294 289 (Ql v0 rn of_))::XX)++H) Tryz.results102 rfl rfl (.nil _) zH ?_
 have h0:¬ (((k:Int)<0∨(n:Int)≤(k:Int))∨(j:Int)<0∨32≤(j:Int)):=by omega
 have e:qbf n Q Rs (k:Int) (j:Int)=(Q,Rs,0,4):=by
  unfold qbf
  rw [if_neg h0,if_neg (by rw [ho]; decide),he]
 rw [e]
 exact ⟨_,hP,rfl,rfl⟩
set_option maxRecDepth 100000
abbrev rn0:List Int:=List.replicate 256 0
abbrev of0:List Int:=List.replicate 32 0
theorem runs0:Zp rn0 of0 []:=by
 refine ⟨List.length_replicate,List.length_replicate,fun x hx=>?_,fun x hx=>?_,fun i c=>?_,fun i c=>?_,fun p hp=>(by cases hp),List.nodup_nil⟩
 ·rw [List.eq_of_mem_replicate hx]; decide
 ·rw [List.eq_of_mem_replicate hx]; decide
 ·refine ⟨fun h=>?_,fun h=>by cases h⟩
  have:=List.eq_of_mem_replicate (List.mem_of_getElem? h); omega
 ·refine ⟨fun h=>?_,fun h=>by cases h⟩
  have:=List.eq_of_mem_replicate (List.mem_of_getElem? h); omega
theorem quok0 (n:Nat):QOk n []:=⟨List.nodup_nil,fun p hp=>by cases hp⟩
structure NpS where
 i:Nat
 v:Value
 XQ:qg
 XS:List qg
 rbs:List Nat
theorem qfH {rbs:List Nat} (hl:XS.length=rbs.length) (h:∀ (k:Nat) r Y,rbs[k]?=some r→XS[k]?=some Y→J9 256 r [] Y) (hx:J9 256 rb [] X):∀ (k:Nat) r Y,(rbs++[rb])[k]?=some r→(XS++[X])[k]?=some Y→J9 256 r [] Y:=fun k r Y h1 h2=>by
 by_cases c:k<rbs.length
 ·rw [List.getElem?_append_left c] at h1
  rw [List.getElem?_append_left (by omega)] at h2
  exact h k r Y h1 h2
 ·rw [List.getElem?_append_right (by omega)] at h1 h2
  rw [hl] at h2
  cases hk:k-rbs.length with
  | zero =>
   rw [hk] at h1 h2
   obtain rfl:rb=r:=by simpa using h1
   obtain rfl:X=Y:=by simpa using h2
   exact hx
  | succ j=>rw [hk] at h1; simp at h1
theorem qjx (hn:1≤n∧n≤64) :qh Tryz.prog w0 195 #[zi (n:Int)] (H) (fun v H'=>∃ pb HB,v=.tuple #[zp pb,zi 0]∧zb pb n [] [] HB∧H'=HB++H):=by
 refine qc (l:=[zi (n:Int)]) Tryz.func195 rfl Tryz.ntmps195 rfl rfl ?_
 refine za 8 rfl ?_
 rw [decide_eq_false (by omega)]
 refine za 5 rfl ?_
 rw [decide_eq_false (by omega)]
 refine za 5 rfl ?_
 refine qX (l:=(Ql (.slice none 0 0) rn0 of0)) ty294 pl294 .nil rfl zk rfl ?_
 refine qK (l:=(Ql (.slice none 0 0) rn0 of0)) rfl rfl rfl (fun b14=>?_)
 refine za 8 rfl ?_
 refine qU (X:=NpS) [(4,_),(15,_)] (fun (x:NpS)=>[(16,zi (x.i:Int))]) (fun _=>_) (fun (x:NpS)=>(b14,.cells 294 289 (Ql x.v rn0 of0))::(x.XQ++(x.XS.flatten++H))) (fun (x:NpS)=>x.i≤n∧x.rbs.length=x.i∧zm 281 1 x.v x.rbs.length (x.rbs.map rbP) x.XQ∧x.XS.length=x.rbs.length∧(∀ (k:Nat) r Y,x.rbs[k]?=some r→x.XS[k]?=some Y→J9 256 r [] Y)) (fun (x:NpS)=>n-x.i) ⟨0,.slice none 0 0,[],[],[]⟩ ⟨Nat.zero_le _,rfl,.nil,rfl,fun k r Y h=>(by cases h)⟩ (qa rfl (qa rfl (qi _))) (qa rfl (qi _)) rfl (.refl _) ?_
 rintro ⟨i,v,XQ,XS,rbs⟩ ⟨hi,hlen,hv,hl,hw⟩
 dsimp only at hi hlen hv hl hw ⊢
 simp only [List.cons_append,List.nil_append]
 refine za 4 rfl ?_
 refine qm (p:=(i:Int)<(n:Int)) rfl (by simp) (fun q0=>?_) (fun q0=>?_)
 ·skip
  refine za 4 rfl ?_
  refine qk (zc1 rfl) Tryz.call274 rfl (qpg (R:=256) zd zd) ?_
  rintro w2 H' ⟨rb,HX,rfl,hX,rfl⟩
  refine za 18 rfl ?_
  refine qe (v:=v) rfl Xc rfl (qf.own (b:=b14) zM rfl) rfl ?_
  refine qD rfl rfl ?_
  refine qy (l:=[rbP rb]) Xc Yz (.cons rfl rfl rfl rfl rfl .nil) rfl rfl rfl rfl rfl rfl rfl (fun b31=>?_)
  refine Qv (news:=[rbP rb]) (m:=1) (HB:=XQ) (H0:=(b31,.cells 281 1 [rbP rb])::(HX++((b14,.cells 294 289 (Ql v rn0 of0))::(XS.flatten++H)))) rfl rfl Xc Yz rfl (by decide) hv rfl (Holds.own (b:=b31) zM) rfl (by simp only [maxLen]; omega) (by omega) zH rfl (fun v' X' hv'=>?_)
  refine za 2 rfl ?_
  have hv1:v'.oneCell'=true:=by obtain ⟨_,_,rfl,_⟩:=hv'.shape; rfl
  refine qv (l':=(Ql v' rn0 of0)) rfl rfl Xc hv1 rfl (b:=b14) zM (by rw [qhI List.length_replicate List.length_replicate]; rfl) rfl zU ?_
  refine za 3 rfl ?_
  refine qE rfl rfl (qQ (m:=((i+1:Nat):Int)) ((zg zO).trans zO)) rfl ?_
  refine za 2 rfl ?_
  refine qP ⟨i+1,v',X',XS++[HX],rbs++[rb]⟩ ⟨by show i+1≤n; omega,by show (rbs++[rb]).length=i+1; rw [List.length_append,hlen]; rfl,by show zm 281 1 v' (rbs++[rb]).length ((rbs++[rb]).map rbP) X'; rw [List.length_append,List.map_append]; exact hv',by show (XS++[HX]).length=(rbs++[rb]).length; rw [List.length_append,List.length_append,hl]; rfl,qfH hl hw hX⟩ (by show n-(i+1)<n-i; omega) (qa rfl (qa rfl (qa rfl (qi _)))) rfl (by show qC _ ((b14,.cells 294 289 (Ql v' rn0 of0))::(X'++((XS++[HX]).flatten++H))); rw [List.flatten_append,List.flatten_singleton,List.append_assoc]; first | exact YF | (repeat (first | with_reducible exact qC.refl _ | refine qC.cons zT ?_ | refine qC.app zS ?_ | exact qC.nil _ | exact qC.refl _ | refine qC.drop ?_ | refine qC.dropS ?_)))
 ·skip
  refine za 6 rfl ?_
  refine qL (H2:=(b14,.cells 294 289 (Ql v rn0 of0))::(XQ++(XS.flatten++H))) Tryz.results195 rfl rfl (.nil _) zH ?_
  obtain rfl:i=n:=by omega
  exact ⟨b14,(b14,.cells 294 289 (Ql v rn0 of0))::(XQ++XS.flatten),rfl,.mk (rbs:=rbs) (by rw [← hlen]; exact hv) (by omega) hw runs0 (quok0 _),by show _=_::((XQ++XS.flatten)++H); rw [List.append_assoc]⟩
structure ZL where
 shut:Bool
 prog:Int
variable {A As:List ZL} {o:ZL}
def woC (o:ZL):List Value:=[.bool o.shut,zi o.prog]
theorem JR (o:ZL):(woC o).length=2:=rfl
def q8 (pb n:Nat) (A:List ZL) (on:List Int):List Value:=zp pb::zi ((n:Nat):Int)::(A.flatMap woC++on.map (Value.int .i64))
def QE:ZL:=⟨false,0⟩
theorem qdA (A:List ZL) (on:List Int):(q8 pb n A on).length=A.length*2+on.length+2:=by
 unfold q8; rw [List.length_cons,List.length_cons,List.length_append,zt JR,List.length_map]
theorem qfq (h:A[i]?=some o) (hj:j<2):(q8 pb n A on)[2+i*2+j]?=(woC o)[j]?:=by
 unfold q8
 rw [show 2+i*2+j=(i*2+j)+1+1 by omega,List.getElem?_cons_succ,List.getElem?_cons_succ,List.getElem?_append_left (qbI JR h hj),JY JR h hj]
theorem qiH (h:A[i]?=some o) (hj:j<2):Nat.blt (2+i*2+j) (q8 pb n A on).length=true:=by
 have:=(List.getElem?_eq_some_iff.1 h).1
 rw [qdA,Nat.blt_eq]; omega
theorem qdB (h:A[i]?=some o):(q8 pb n A on)[2+i*2+0]?=some (.bool o.shut):=qfq (j:=0) h zd
theorem qmz (h:A[i]?=some o):(q8 pb n A on)[2+i*2+1]?=some (zi o.prog):=qfq (j:=1) h zd
theorem qiG {o':ZL} {v:Value} (h:A[i]?=some o) (hj:j<2) (e:(woC o).set j v=woC o'):(q8 pb n A on).set (2+i*2+j) v=q8 pb n (A.set i o') on:=by
 unfold q8
 rw [show 2+i*2+j=(i*2+j)+1+1 by omega,List.set_cons_succ,List.set_cons_succ,List.set_append_left _ _ (qbI JR h hj),qex JR h hj e]
theorem qgs {x:Bool} (h:A[i]?=some o):(q8 pb n A on).set (2+i*2+0) (.bool x)=q8 pb n (A.set i { o with shut:=x }) on:=qiG (j:=0) h zd rfl
theorem qmx {x:Int} (h:A[i]?=some o):(q8 pb n A on).set (2+i*2+1) (zi x)=q8 pb n (A.set i { o with prog:=x }) on:=qiG (j:=1) h zd rfl
theorem qo4 {o':ZL} (h:i<A.length):zA (q8 pb n A on) (2+i*2) (woC o')=q8 pb n (A.set i o') on:=by
 have e:=Xl JR (l:=A) o' h
 have hl:=zt JR A
 unfold zA at e ⊢
 unfold q8
 rw [← e,show 2+i*2=(i*2)+1+1 by omega,List.take_succ_cons,List.take_succ_cons,show (i*2)+1+1+(woC o').length=(i*2+(woC o').length)+1+1 by omega,List.drop_succ_cons,List.drop_succ_cons,List.take_append_of_le_length (by rw [hl]; omega),List.drop_append_of_le_length (by rw [hl,JR]; omega)]
 simp only [List.cons_append,List.append_assoc]
theorem qmy (h:A[i]?=some o):((q8 pb n A on).drop (2+i*2)).take 2=woC o:=by
 apply List.ext_getElem?
 intro j
 by_cases c:j<2
 ·rw [List.getElem?_take,if_pos c,List.getElem?_drop,qfq h c]
 ·rw [List.getElem?_eq_none (by rw [List.length_take]; omega),List.getElem?_eq_none (by rw [JR]; omega)]
structure qc4 (n:Nat) (A:List ZL) (on:List Int):Prop where
 len:A.length=256
 rng:∀ o∈A,0≤o.prog∧o.prog≤16
 on32:on.length=32
 onr:∀ x∈on,0≤x∧x≤(n:Int)
theorem qc4.set (h:qc4 n A on) (i:Nat) (hp:0≤o.prog∧o.prog≤16):qc4 n (A.set i o) on:=⟨by rw [List.length_set,h.len],fun x hx=>by
 rcases List.mem_or_eq_of_mem_set hx with hx | rfl
 ·exact h.rng x hx
 ·exact hp,h.on32,h.onr⟩
theorem qc4.at (h:qc4 n A on) (hi:i<256):∃ o,A[i]?=some o:=⟨_,List.getElem?_eq_getElem (by rw [h.len]; exact hi)⟩
inductive Jm (wb n:Nat) (Q Rs:List (Int × Int)) (As:List ZL) (on:List Int):qg→Prop
 | mk {pb:Nat} {HP:qg} (hP:zb pb n Q Rs HP) (hA:qc4 n As on) (hn:n≤64):Jm wb n Q Rs As on ((wb,.cells 179 546 (q8 pb n As on))::HP)
def Xw (prog:Int) (o:ZL):ZL × Int:=if o.shut=true then (o,22) else ({ o with prog:=prog+1 },0)
theorem sameW (h:As[i]?=some o):As.set i o=As:=by
 apply List.ext_getElem?
 intro j
 by_cases c:i=j
 ·subst c; rw [List.getElem?_set_self (List.getElem?_eq_some_iff.1 h).1,h]
 ·rw [List.getElem?_set_ne c]
theorem qiC (hi:id<0):Qx Tryz.prog (fun _=>True) 95 [zp wb,zi id,f] (zi 2):=by
 intro w0 H hT
 refine qc Tryz.func95 rfl Tryz.ntmps95 rfl rfl (za 7 rfl ?_)
 refine W_x (qr rfl rfl Jn) (fun _ h=>by cases h) rfl ?_
 refine za 6 rfl ?_
 first | rw [decide_eq_true (by omega)] | rw [decide_eq_false (by omega)]
 refine za 10 rfl ?_
 refine qd (H2:=H) Tryz.results95 rfl (.nil _) zH ?_
 exact ⟨rfl,rfl⟩
theorem qiD (hi:256≤id):Qx Tryz.prog (fun _=>True) 95 [zp wb,zi id,f] (zi 2):=by
 intro w0 H hT
 refine qc Tryz.func95 rfl Tryz.ntmps95 rfl rfl (za 7 rfl ?_)
 refine W_x (qr rfl rfl Jn) (fun _ h=>by cases h) rfl ?_
 refine za 6 rfl ?_
 first | rw [decide_eq_true (by omega)] | rw [decide_eq_false (by omega)]
 refine za 5 rfl ?_
 first | rw [decide_eq_true (by omega)] | rw [decide_eq_false (by omega)]
 refine za 7 rfl ?_
 refine qd (H2:=H) Tryz.results95 rfl (.nil _) zH ?_
 exact ⟨rfl,rfl⟩
theorem qhj (hi:¬ (0≤id∧id<256)):Qx Tryz.prog (fun _=>True) 95 [zp wb,zi id,f] (zi 2):=by
 by_cases h:id<0
 ·exact qiC h
 ·exact qiD zO
theorem Kd {fi:Nat} {ca:List Value} {R:Value→qg→Prop} (hfi:∀ (args:Array Value) (w:World),(callFunc fi args).run Tryz.prog w=.ok (.enter fi args) w) (hi:i<256) (hdo:qh Tryz.prog w0 fi (#[]++#[.pointer (some ⟨wb,2+i*2,none⟩)]++ca.toArray) H R) (hE:∀ v H2,R v H2→∃ e,v=zi e) :qh Tryz.prog w0 95 #[zp wb,zi (i:Int),Value.func (.func fi) #[] ca.toArray] (H) (R):=by
 refine qc (l:=[zp wb,zi (i:Int),Value.func (.func fi) #[] ca.toArray]) Tryz.func95 rfl Tryz.ntmps95 rfl rfl ?_
 refine za 7 rfl ?_
 refine W_x (qr rfl rfl Jn) (fun _ h=>by cases h) rfl ?_
 refine za 6 rfl ?_
 first | rw [decide_eq_true (by omega)] | rw [decide_eq_false (by omega)]
 refine za 5 rfl ?_
 first | rw [decide_eq_true (by omega)] | rw [decide_eq_false (by omega)]
 refine za 12 rfl ?_
 refine Qe (j:=i) rfl rfl qoF Jr (by first | rfl | omega) (by first | decide | omega | simp) rfl rfl ?_
 refine Yx (fa:=#[]) (ca:=ca.toArray) rfl (.cons rfl .nil) hfi rfl (hdo) ?_
 rintro v H' hR
 refine za 2 rfl ?_
 refine qd (H2:=H') Tryz.results95 rfl (.nil _) zH ?_
 exact hR
theorem qmv (hA:As[i]?=some o) {prog:Int} (hp:0≤prog∧prog<16) :qh Tryz.prog w0 164 #[.pointer (some ⟨wb,2+i*2,none⟩),zp b5] ((b5,.cells 3 1 [zi prog])::(wb,.cells 179 546 (q8 pb n As on))::H) (fun v H'=>v=zi (Xw prog o).2∧H'=(b5,.cells 3 1 [zi prog])::(wb,.cells 179 546 (q8 pb n (As.set i (Xw prog o).1) on))::H):=by
 refine qc (l:=[.pointer (some ⟨wb,2+i*2,none⟩),zp b5]) Tryz.func164 rfl Tryz.ntmps164 rfl rfl ?_
 refine za 6 rfl ?_
 refine qe (v:=zi prog) rfl ty3 rfl (qf.own (b:=b5) zM rfl) rfl ?_
 refine za 1 rfl ?_
 first | rw [decide_eq_true (by omega)] | rw [decide_eq_false (by omega)]
 refine za 2 rfl ?_
 refine qe (v:=zi prog) rfl ty3 rfl (qf.own (b:=b5) zM rfl) rfl ?_
 refine za 2 rfl ?_
 first | rw [decide_eq_true (by omega)] | rw [decide_eq_false (by omega)]
 refine za 8 rfl ?_
 refine qe (v:=.bool o.shut) rfl ty4 rfl (qf.own (b:=wb) zM (qdB hA)) rfl ?_
 refine za 2 rfl ?_
 refine qm (p:=o.shut=true) rfl (by simp) (fun q1=>?_) (fun q1=>?_)
 ·skip
  refine za 3 rfl (qd Tryz.results164 rfl (.nil _) (.refl _) ?_)
  rw [show Xw prog o=(o,22) from if_pos q1,sameW hA]
  exact ⟨rfl,rfl⟩
 ·skip
  refine za 4 rfl ?_
  refine qe (v:=zi prog) rfl ty3 rfl (qf.own (b:=b5) zM rfl) rfl ?_
  refine qE rfl rfl (qQ (m:=prog+1) (zg zO)) rfl ?_
  refine za 2 rfl ?_
  refine qv (l':=q8 pb n (As.set i { o with prog:=prog+1 }) on) rfl rfl ty3 rfl rfl (b:=wb) zM (qiH hA zd) (qmx hA) zU ?_
  refine za 4 rfl (qd Tryz.results164 rfl (.nil _) (.refl _) ?_)
  rw [show Xw prog o=({ o with prog:=prog+1 },0) from if_neg q1]
  exact ⟨rfl,rfl⟩
theorem qmD (hA:As[i]?=some o) (hi:i<256) {prog:Int} (hp:0≤prog∧prog<16) :qh Tryz.prog w0 75 #[zp wb,zi (i:Int),zi prog] ((wb,.cells 179 546 (q8 pb n As on))::H) (fun v H'=>v=zi (Xw prog o).2∧H'=(wb,.cells 179 546 (q8 pb n (As.set i (Xw prog o).1) on))::H):=by
 refine qc (l:=[zp wb,zi (i:Int),zi prog]) Tryz.func75 rfl Tryz.ntmps75 rfl rfl ?_
 refine ze ?_
 refine qK (l:=[zi prog]) rfl rfl rfl (fun b5=>?_)
 refine za 5 rfl (qI .nil (.cons rfl .nil) rfl ?_)
 refine qk (zc3 rfl rfl rfl) Tryz.call95 rfl ((Kd (i:=i) (fi:=164) (ca:=[zp b5]) Tryz.call164 hi (qmv (b5:=b5) hA hp (H:=H)) ?_).hsub zH) ?_
 ·rintro v H2 ⟨e,_⟩
  exact ⟨_,e⟩
 rintro v H' ⟨rfl,rfl⟩
 refine za 2 rfl ?_
 refine qd (H2:=(wb,.cells 179 546 (q8 pb n (As.set i (Xw prog o).1) on))::H) Tryz.results75 rfl (.nil _) zH ?_
 exact ⟨rfl,rfl⟩
theorem qaR (Q:List (Int × Int)) (z:Int):QJ Q [z]=(ZC Q z,if (whQ Q z).isSome=true then 1 else 0):=by
 unfold QJ; simp
theorem qiE (hP:zb pb n Q Rs HP) (hn:n≤64) (hA:As[i]?=some o) {b7:Nat} {c:Int} (hc:0≤c∧c≤1000) :qh Tryz.prog w0 244 #[.pointer (some ⟨wb,2+i*2,none⟩),zp b5,zp b2,zp b7] ((b5,.cells 3 1 [zi c])::(b2,.cells 67 1 [zp wb])::(b7,.cells 3 1 [zi (i:Int)])::(wb,.cells 179 546 (q8 pb n As on))::(HP++H)) (fun v H'=>∃ HP2,zb pb n (ZC Q (i:Int)) Rs HP2∧v=zi 0∧H'=(b5,.cells 3 1 [zi (if o.shut=true then c else c+1)])::(b2,.cells 67 1 [zp wb])::(b7,.cells 3 1 [zi (i:Int)])::(wb,.cells 179 546 (q8 pb n (As.set i { o with shut:=true }) on))::(HP2++H)):=by
 refine qc (l:=[.pointer (some ⟨wb,2+i*2,none⟩),zp b5,zp b2,zp b7]) Tryz.func244 rfl Tryz.ntmps244 rfl rfl ?_
 refine za 8 rfl ?_
 refine qe (v:=.bool o.shut) rfl ty4 rfl (qf.own (b:=wb) zM (qdB hA)) rfl ?_
 refine za 2 rfl ?_
 refine qm (p:=o.shut=false) rfl (by simp) (fun q0=>?_) (fun q0=>?_)
 ·skip
  refine ZM ?_
  refine qe (v:=zi c) rfl ty3 rfl (qf.own (b:=b5) zM rfl) rfl ?_
  refine qE rfl rfl (qQ (m:=c+1) (zg zO)) rfl ?_
  refine qv (l':=[zi (c+1)]) rfl rfl ty3 rfl rfl (b:=b5) zM rfl rfl zU ?_
  refine za 2 rfl ?_
  refine W_anyC [(b2,.cells 67 1 [zp wb]),(b7,.cells 3 1 [zi (i:Int)]),(wb,.cells 179 546 (q8 pb n As on))] zk ?_
  refine WC_take 0 rfl zK zK zK rfl rfl (qj (v:=zp wb) rfl Jn rfl (qf.own (b:=b2) zM rfl)) rfl ?_
  refine zw [1,2] rfl rfl ?_
  refine WC_take 3 rfl zK zK zK rfl rfl (qj (v:=zp pb) rfl Zf rfl (qf.own (b:=wb) zM rfl)) rfl ?_
  refine WC_take 4 rfl zK zK zK rfl rfl (qj (v:=zi (i:Int)) rfl ty3 rfl (qf.own (b:=b7) zM rfl)) rfl ?_
  refine WC_one 5 zH zK rfl rfl ?_
  refine qy (l:=[zi (i:Int)]) qZ ty3 (.cons rfl rfl rfl rfl rfl .nil) rfl rfl rfl rfl rfl rfl rfl (fun b18=>?_)
  refine qs (WC_goal ?_)
  refine WC_one 6 zH zK rfl rfl ?_
  refine qk (zc2 rfl rfl) Tryz.call179 rfl ((qaY hP hn (ids:=[(i:Int)]) (ad:=some ⟨b18,0,none⟩) (cap:=1) (by show 1≤1000000; decide) (Holds.own (b:=b18) zM) (H:=(b18,.cells 3 1 [zi (i:Int)])::(b5,.cells 3 1 [zi (c+1)])::(b2,.cells 67 1 [zp wb])::(b7,.cells 3 1 [zi (i:Int)])::(wb,.cells 179 546 (q8 pb n As on))::H)).hsub zH) ?_
  rintro v H' ⟨HP2,hP2,rfl,rfl⟩
  rw [qaR] at hP2
  refine qs (WC_goal (WC_done zH zK (za 4 rfl ?_)))
  refine qv (l':=q8 pb n (As.set i { o with shut:=true }) on) rfl rfl ty4 rfl rfl (b:=wb) zM (qiH hA zd) (qgs hA) zU ?_
  refine za 4 rfl ?_
  refine qd (H2:=(b5,.cells 3 1 [zi (c+1)])::(b2,.cells 67 1 [zp wb])::(b7,.cells 3 1 [zi (i:Int)])::(wb,.cells 179 546 (q8 pb n (As.set i { o with shut:=true }) on))::(HP2++H)) Tryz.results244 rfl (.nil _) zH ?_
  refine ⟨HP2,hP2,rfl,?_⟩
  rw [if_neg (by rw [q0]; decide)]
 ·skip
  refine za 2 rfl ?_
  refine W_anyC [(b2,.cells 67 1 [zp wb]),(b7,.cells 3 1 [zi (i:Int)]),(wb,.cells 179 546 (q8 pb n As on))] zk ?_
  refine WC_take 0 rfl zK zK zK rfl rfl (qj (v:=zp wb) rfl Jn rfl (qf.own (b:=b2) zM rfl)) rfl ?_
  refine zw [1,2] rfl rfl ?_
  refine WC_take 3 rfl zK zK zK rfl rfl (qj (v:=zp pb) rfl Zf rfl (qf.own (b:=wb) zM rfl)) rfl ?_
  refine WC_take 4 rfl zK zK zK rfl rfl (qj (v:=zi (i:Int)) rfl ty3 rfl (qf.own (b:=b7) zM rfl)) rfl ?_
  refine WC_one 5 zH zK rfl rfl ?_
  refine qy (l:=[zi (i:Int)]) qZ ty3 (.cons rfl rfl rfl rfl rfl .nil) rfl rfl rfl rfl rfl rfl rfl (fun b18=>?_)
  refine qs (WC_goal ?_)
  refine WC_one 6 zH zK rfl rfl ?_
  refine qk (zc2 rfl rfl) Tryz.call179 rfl ((qaY hP hn (ids:=[(i:Int)]) (ad:=some ⟨b18,0,none⟩) (cap:=1) (by show 1≤1000000; decide) (Holds.own (b:=b18) zM) (H:=(b18,.cells 3 1 [zi (i:Int)])::(b5,.cells 3 1 [zi c])::(b2,.cells 67 1 [zp wb])::(b7,.cells 3 1 [zi (i:Int)])::(wb,.cells 179 546 (q8 pb n As on))::H)).hsub zH) ?_
  rintro v H' ⟨HP2,hP2,rfl,rfl⟩
  rw [qaR] at hP2
  refine qs (WC_goal (WC_done zH zK (za 4 rfl ?_)))
  refine qv (l':=q8 pb n (As.set i { o with shut:=true }) on) rfl rfl ty4 rfl rfl (b:=wb) zM (qiH hA zd) (qgs hA) zU ?_
  refine za 4 rfl ?_
  refine qd (H2:=(b5,.cells 3 1 [zi c])::(b2,.cells 67 1 [zp wb])::(b7,.cells 3 1 [zi (i:Int)])::(wb,.cells 179 546 (q8 pb n (As.set i { o with shut:=true }) on))::(HP2++H)) Tryz.results244 rfl (.nil _) zH ?_
  refine ⟨HP2,hP2,rfl,?_⟩
  rw [if_pos (by simpa using q0)]
theorem qiM (hP:zb pb n Q Rs HP) (hn:n≤64) (hA:As[i]?=some o) (hi:i<256) (hrow:Holds w0 H ad [zi (i:Int)]) :qh Tryz.prog w0 151 #[zp wb,.slice ad 1 cap] ((wb,.cells 179 546 (q8 pb n As on))::(HP++H)) (fun v H'=>∃ HP2,zb pb n (ZC Q (i:Int)) Rs HP2∧(∃ m,v=zi m)∧H'=(wb,.cells 179 546 (q8 pb n (As.set i { o with shut:=true }) on))::(HP2++H)):=by
 refine qc (l:=[zp wb,.slice ad 1 cap]) Tryz.func151 rfl Tryz.ntmps151 rfl rfl ?_
 refine ze ?_
 refine qK (l:=[zp wb]) rfl rfl rfl (fun b2=>?_)
 refine za 3 rfl ?_
 refine qp (l:=[zi 0]) ty3 rfl rfl (fun b5=>?_)
 refine qv (l':=[zi 0]) rfl rfl ty3 rfl rfl (b:=b5) zM rfl rfl zU ?_
 refine za 4 rfl (zZ rfl qZ rfl rfl (za 3 rfl ?_))
 refine qU (X:=(Nat × List ZL × List (Int × Int) × qg × Int)) [(2,_),(5,_),(8,_),(9,_)] (fun (z:(Nat × List ZL × List (Int × Int) × qg × Int))=>[(10,zi (z.1:Int))]) (fun _=>_) (fun (z:(Nat × List ZL × List (Int × Int) × qg × Int))=>(b5,.cells 3 1 [zi z.2.2.2.2])::(b2,.cells 67 1 [zp wb])::(wb,.cells 179 546 (q8 pb n z.2.1 on))::(z.2.2.2.1++H)) (fun (z:(Nat × List ZL × List (Int × Int) × qg × Int))=>z.1≤1∧(z.1=0→z.2.1=As∧z.2.2.1=Q∧z.2.2.2.2=0)∧(z.1=1→z.2.1=As.set i { o with shut:=true }∧z.2.2.1=ZC Q (i:Int)∧z.2.2.2.2=(if o.shut=true then 0 else 0+1))∧zb pb n z.2.2.1 Rs z.2.2.2.1) (fun (z:(Nat × List ZL × List (Int × Int) × qg × Int))=>1-z.1) (0,As,Q,HP,0) ⟨Nat.zero_le _,fun _=>⟨rfl,rfl,rfl⟩,fun h=>(by cases h),hP⟩ (qa rfl (qa rfl (qa rfl (qa rfl (qi _))))) (qa rfl (qi _)) rfl zH ?_
 rintro ⟨k,A1,Q1,HP1,c1⟩ ⟨hk,h0,h1,hP1⟩
 dsimp only at hk h0 h1 hP1 ⊢
 simp only [List.cons_append,List.nil_append]
 refine za 4 rfl ?_
 refine qm (p:=k<1) rfl (by rw [decide_eq_true_eq]; omega) (fun q0=>?_) (fun q0=>?_)
 ·skip
  refine za 4 rfl ?_
  obtain rfl:k=0:=by omega
  obtain ⟨e1,e2,rfl⟩:=h0 rfl
  obtain rfl:=e1.symm
  obtain rfl:=e2.symm
  obtain ⟨q0_,p0_,rfl,hc⟩:=hrow.at (i:=0) (v:=.int .i64 (i:Int)) rfl
  refine qS (j:=0) rfl rfl qZ ty3 rfl zd rfl rfl ?_
  refine qe (v:=zi (i:Int)) rfl ty3 rfl (by exact hc.up zH) rfl ?_
  refine qp (l:=[zi 0]) ty3 rfl rfl (fun b7=>?_)
  refine qv (l':=[zi (i:Int)]) rfl rfl ty3 rfl rfl (b:=b7) zM rfl rfl zU ?_
  refine za 2 rfl ?_
  refine qe (v:=zp wb) rfl Jn rfl (qf.own (b:=b2) zM rfl) rfl ?_
  refine qe (v:=zi (i:Int)) rfl ty3 rfl (qf.own (b:=b7) zM rfl) rfl ?_
  refine qI .nil (.cons rfl (.cons rfl (.cons rfl .nil))) rfl ?_
  refine qk (zc3 rfl rfl rfl) Tryz.call95 rfl ((Kd (i:=i) (fi:=244) (ca:=[zp b5,zp b2,zp b7]) Tryz.call244 hi (qiE (b5:=b5) (b2:=b2) (b7:=b7) hP1 hn hA (c:=0) zd (H:=H)) ?_).hsub zH) ?_
  ·rintro v H2 ⟨_,_,e,_⟩
   exact ⟨_,e⟩
  rintro v H' ⟨HP2,hP2,rfl,rfl⟩
  refine za 3 rfl ?_
  refine qE rfl rfl (qQ (m:=1) rfl) rfl ?_
  refine za 2 rfl ?_
  refine qP (1,As.set i { o with shut:=true },ZC Q (i:Int),HP2,(if o.shut=true then 0 else 0+1)) ⟨Nat.le_refl _,fun h=>(by cases h),fun _=>⟨rfl,rfl,rfl⟩,hP2⟩ (by show 1-1<1-0; decide) (qa rfl (qa rfl (qa rfl (qa rfl (qa rfl (qi _)))))) rfl zH
 ·skip
  refine za 2 rfl ?_
  refine qe (v:=zi c1) rfl ty3 rfl (qf.own (b:=b5) zM rfl) rfl ?_
  refine za 2 rfl ?_
  refine qd (H2:=(wb,.cells 179 546 (q8 pb n A1 on))::(HP1++H)) Tryz.results151 rfl (.nil _) zH ?_
  obtain rfl:k=1:=by omega
  obtain ⟨rfl,rfl,rfl⟩:=h1 rfl
  exact ⟨HP1,hP1,⟨_,rfl⟩,rfl⟩
def z9 (Q Rs:List (Int × Int)) (As:List ZL) (i:Nat):List (Int × Int) × List ZL × Int:=if (inR Rs (i:Int)).isSome=true then (Q,As,21) else (ZC Q (i:Int),As.set i QE,0)
theorem qfc {c:Int} (h:inR Rs (i:Int)=some c):z9 Q Rs As i=(Q,As,21):=by unfold z9; rw [h]; rfl
theorem qig (h:inR Rs (i:Int)=none):z9 Q Rs As i=(ZC Q (i:Int),As.set i QE,0):=by unfold z9; rw [h]; rfl
theorem qno {p x:Nat × Blk} {Y:qg} (hp:p∈X):p∈x::(X++Y):=List.mem_cons_of_mem _ (List.mem_append_left _ hp)
theorem qiI (hm:(wb,.cells 179 546 (q8 pb n As on))∈H) :qB Tryz.prog w0 H 124 [zp wb] (zp pb):=by
 refine qc Tryz.func124 rfl Tryz.ntmps124 rfl rfl (za 6 rfl ?_)
 refine W_x (qr rfl rfl Jn) (fun _ h=>by cases h) rfl ?_
 refine za 7 rfl ?_
 refine qe (v:=zp pb) rfl Zf rfl (qf.own (b:=wb) hm rfl) rfl ?_
 refine za 2 rfl ?_
 refine qd (H2:=H) Tryz.results124 rfl (.nil _) zH ?_
 exact ⟨rfl,rfl⟩
theorem qgv (hP:zb pb n Q Rs HP) (hm:(wb,.cells 179 546 (q8 pb n As on))∈H) (hq:∀ p∈HP,p∈H) :qB Tryz.prog w0 H 158 [zp wb,zi id] (ZU (inR Rs id)):=by
 refine qc Tryz.func158 rfl Tryz.ntmps158 rfl rfl (za 6 rfl (qn (zc1 rfl) Tryz.call124 rfl (qiI hm) (qD rfl rfl ?_)))
 refine qn (zc2 rfl rfl) Tryz.call252 rfl (hP.Runs_q hq (id:=id)) ?_
 rcases hir:inR Rs id with _ | cx
 ·skip
  rw [show ZU none=.tuple #[zi 0,.bool false] from rfl]
  refine za 5 rfl ?_
  refine qL (H2:=H) Tryz.results158 rfl rfl (.nil _) zH ?_
  exact ⟨rfl,rfl⟩
 ·skip
  rw [show ZU (some cx)=.tuple #[zi cx,.bool true] from rfl]
  refine za 5 rfl ?_
  refine qL (H2:=H) Tryz.results158 rfl rfl (.nil _) zH ?_
  exact ⟨rfl,rfl⟩
theorem qhm (hP:zb pb n Q Rs HP) (hn:n≤64) (hA:As[i]?=some o) {b3:Nat} :qh Tryz.prog w0 258 #[.pointer (some ⟨wb,2+i*2,none⟩),zp b2,zp b3] ((b2,.cells 67 1 [zp wb])::(b3,.cells 3 1 [zi (i:Int)])::(wb,.cells 179 546 (q8 pb n As on))::(HP++H)) (fun v H'=>∃ HP2,zb pb n (z9 Q Rs As i).1 Rs HP2∧v=zi (z9 Q Rs As i).2.2∧H'=(b2,.cells 67 1 [zp wb])::(b3,.cells 3 1 [zi (i:Int)])::(wb,.cells 179 546 (q8 pb n (z9 Q Rs As i).2.1 on))::(HP2++H)):=by
 have hil:=(List.getElem?_eq_some_iff.1 hA).1
 refine qc (l:=[.pointer (some ⟨wb,2+i*2,none⟩),zp b2,zp b3]) Tryz.func258 rfl Tryz.ntmps258 rfl rfl ?_
 refine za 5 rfl ?_
 refine qe (v:=zp wb) rfl Jn rfl (qf.own (b:=b2) zM rfl) rfl ?_
 refine qe (v:=zi (i:Int)) rfl ty3 rfl (qf.own (b:=b3) zM rfl) rfl ?_
 refine qn (zc2 rfl rfl) Tryz.call158 rfl (qgv (id:=(i:Int)) hP (As:=As) (on:=on) zM (fun p hp=>List.mem_cons_of_mem _ (List.mem_cons_of_mem _ (qno hp)))) ?_
 rcases hir:inR Rs (i:Int) with _ | cx
 ·skip
  rw [show ZU none=.tuple #[zi 0,.bool false] from rfl]
  refine za 12 rfl ?_
  refine W_anyC [(b2,.cells 67 1 [zp wb]),(b3,.cells 3 1 [zi (i:Int)]),(wb,.cells 179 546 (q8 pb n As on))] zk ?_
  refine WC_take 0 rfl zK zK zK rfl rfl (qj (v:=zp wb) rfl Jn rfl (qf.own (b:=b2) zM rfl)) rfl ?_
  refine zw [1,2] rfl rfl ?_
  refine WC_take 3 rfl zK zK zK rfl rfl (qj (v:=zp pb) rfl Zf rfl (qf.own (b:=wb) zM rfl)) rfl ?_
  refine WC_take 4 rfl zK zK zK rfl rfl (qj (v:=zi (i:Int)) rfl ty3 rfl (qf.own (b:=b3) zM rfl)) rfl ?_
  refine WC_one 5 zH zK rfl rfl ?_
  refine qy (l:=[zi (i:Int)]) qZ ty3 (.cons rfl rfl rfl rfl rfl .nil) rfl rfl rfl rfl rfl rfl rfl (fun b19=>?_)
  refine qs (WC_goal ?_)
  refine WC_one 6 zH zK rfl rfl ?_
  refine qk (zc2 rfl rfl) Tryz.call179 rfl ((qaY hP hn (ids:=[(i:Int)]) (ad:=some ⟨b19,0,none⟩) (cap:=1) (by show 1≤1000000; decide) (Holds.own (b:=b19) zM) (H:=(b19,.cells 3 1 [zi (i:Int)])::(b2,.cells 67 1 [zp wb])::(b3,.cells 3 1 [zi (i:Int)])::(wb,.cells 179 546 (q8 pb n As on))::H)).hsub zH) ?_
  rintro v H' ⟨HP2,hP2,rfl,rfl⟩
  rw [qaR] at hP2
  refine qs (WC_goal (WC_done zH zK (za 2 rfl ?_)))
  refine qX (l:=woC QE) Jr pl176 .nil rfl rfl rfl ?_
  refine qcW rfl rfl ?_
  refine ql (l':=q8 pb n (As.set i QE) on) rfl rfl Jr rfl rfl (b:=wb) zM (by show 2+i*2+2≤(q8 pb n As on).length; rw [qdA]; omega) (qo4 (o':=QE) hil) zU ?_
  refine za 4 rfl ?_
  refine qd (H2:=(b2,.cells 67 1 [zp wb])::(b3,.cells 3 1 [zi (i:Int)])::(wb,.cells 179 546 (q8 pb n (As.set i QE) on))::(HP2++H)) Tryz.results258 rfl (.nil _) zH ?_
  rw [qig hir]
  exact ⟨HP2,hP2,rfl,rfl⟩
 ·skip
  rw [show ZU (some cx)=.tuple #[zi cx,.bool true] from rfl]
  refine za 13 rfl ?_
  refine qd (H2:=(b2,.cells 67 1 [zp wb])::(b3,.cells 3 1 [zi (i:Int)])::(wb,.cells 179 546 (q8 pb n As on))::(HP++H)) Tryz.results258 rfl (.nil _) zH ?_
  rw [qfc hir]
  exact ⟨HP,hP,rfl,rfl⟩
theorem qho (hP:zb pb n Q Rs HP) (hn:n≤64) (hA:As[i]?=some o) (hi:i<256) :qh Tryz.prog w0 162 #[zp wb,zi (i:Int)] ((wb,.cells 179 546 (q8 pb n As on))::(HP++H)) (fun v H'=>∃ HP2,zb pb n (z9 Q Rs As i).1 Rs HP2∧v=zi (z9 Q Rs As i).2.2∧H'=(wb,.cells 179 546 (q8 pb n (z9 Q Rs As i).2.1 on))::(HP2++H)):=by
 refine qc (l:=[zp wb,zi (i:Int)]) Tryz.func162 rfl Tryz.ntmps162 rfl rfl ?_
 refine ze ?_
 refine qK (l:=[zp wb]) rfl rfl rfl (fun b2=>?_)
 refine qK (l:=[zi (i:Int)]) rfl rfl rfl (fun b3=>?_)
 refine za 3 rfl ?_
 refine qe (v:=zp wb) rfl Jn rfl (qf.own (b:=b2) zM rfl) rfl ?_
 refine qe (v:=zi (i:Int)) rfl ty3 rfl (qf.own (b:=b3) zM rfl) rfl ?_
 refine qI .nil (.cons rfl (.cons rfl .nil)) rfl ?_
 refine qk (zc3 rfl rfl rfl) Tryz.call95 rfl ((Kd (i:=i) (fi:=258) (ca:=[zp b2,zp b3]) Tryz.call258 hi (qhm (b2:=b2) (b3:=b3) hP hn hA (H:=H)) ?_).hsub zH) ?_
 ·rintro v H2 ⟨_,_,e,_⟩
  exact ⟨_,e⟩
 rintro v H' ⟨HP2,hP2,rfl,rfl⟩
 refine za 2 rfl ?_
 refine qd (H2:=(wb,.cells 179 546 (q8 pb n (z9 Q Rs As i).2.1 on))::(HP2++H)) Tryz.results162 rfl (.nil _) zH ?_
 exact ⟨HP2,hP2,rfl,rfl⟩
theorem qo3 (hA:As[i]?=some o) (hm:(wb,.cells 179 546 (q8 pb n As on))∈H) :qh Tryz.prog w0 191 #[.pointer (some ⟨wb,2+i*2,none⟩),zp b5] ((b5,.cells 176 2 (woC QE))::H) (fun v H'=>v=zi 0∧H'=(b5,.cells 176 2 (woC o))::H):=by
 refine qc (l:=[.pointer (some ⟨wb,2+i*2,none⟩),zp b5]) Tryz.func191 rfl Tryz.ntmps191 rfl rfl ?_
 refine za 6 rfl ?_
 refine qJ (vs:=woC o) rfl Jr rfl (b:=wb) (List.mem_cons_of_mem _ hm) (by show Nat.ble (2+i*2+2) (q8 pb n As on).length=true; rw [qdA,Nat.ble_eq]; have:=(List.getElem?_eq_some_iff.1 hA).1; omega) (qmy hA) rfl ?_
 refine ql (l':=woC o) rfl rfl Jr rfl rfl (b:=b5) zM (by exact Nat.le_refl 2) rfl zU ?_
 refine za 4 rfl ?_
 refine qd (H2:=(b5,.cells 176 2 (woC o))::H) Tryz.results191 rfl (.nil _) zH ?_
 exact ⟨rfl,rfl⟩
theorem qo2 (hi:i<256) (hA:As[i]?=some o) (hm:(wb,.cells 179 546 (q8 pb n As on))∈H) :qB Tryz.prog w0 H 100 [zp wb,zi (i:Int)] (.agg (woC o).toArray):=by
 refine qc Tryz.func100 rfl Tryz.ntmps100 rfl rfl (ze ?_)
 refine qp (l:=woC QE) Jr rfl rfl (fun b4=>?_)
 refine za 2 rfl ?_
 refine qp (l:=woC QE) Jr rfl rfl (fun b5=>?_)
 refine za 4 rfl (qI .nil (.cons rfl .nil) rfl ?_)
 refine qk (zc3 rfl rfl rfl) Tryz.call95 rfl ((Kd (i:=i) (fi:=191) (ca:=[zp b5]) Tryz.call191 hi (qo3 (b5:=b5) hA (by repeat (first | exact hm | exact List.mem_cons_self | apply List.mem_cons_of_mem | apply List.mem_append_right)) (H:=(b4,.cells 176 2 (woC QE))::H)) ?_).hsub zH) ?_
 ·rintro v H2 ⟨e,_⟩
  exact ⟨_,e⟩
 rintro v H' ⟨rfl,rfl⟩
 refine za 2 rfl ?_
 refine qJ (vs:=woC o) rfl Jr rfl (b:=b5) zM rfl rfl rfl ?_
 refine ql (l':=woC o) rfl rfl Jr rfl rfl (b:=b4) zM (by exact Nat.le_refl 2) rfl zU ?_
 refine qs ?_
 refine Jy (H2:=H) Tryz.results100 rfl (.nil _) Jr rfl zM rfl zH ?_
 exact ⟨rfl,rfl⟩
theorem qmw (hi:¬ (0≤id∧id<256)):Qx Tryz.prog (fun _=>True) 100 [zp wb,zi id] (.agg (woC QE).toArray):=by
 intro w0 H hT
 refine qc Tryz.func100 rfl Tryz.ntmps100 rfl rfl (ze ?_)
 refine qp (l:=woC QE) Jr rfl rfl (fun b4=>?_)
 refine za 2 rfl ?_
 refine qp (l:=woC QE) Jr rfl rfl (fun b5=>?_)
 refine za 4 rfl (qI .nil (.cons rfl .nil) rfl ?_)
 refine qT (zc3 rfl rfl rfl) Tryz.call95 rfl (T:=fun _=>True) trivial (qhj hi ) ?_
 refine za 2 rfl ?_
 refine qJ (vs:=woC QE) rfl Jr rfl (b:=b5) zM rfl rfl rfl ?_
 refine ql (l':=woC QE) rfl rfl Jr rfl rfl (b:=b4) zM (by exact Nat.le_refl 2) rfl zU ?_
 refine qs ?_
 refine Jy (H2:=H) Tryz.results100 rfl (.nil _) Jr rfl zM rfl zH ?_
 exact ⟨rfl,rfl⟩
def ofW (As:List ZL) (id:Int):ZL:=if 0≤id∧id<256 then As.getD id.toNat QE else QE
theorem Xx (hi:i<256) (h:As[i]?=some o):ofW As (i:Int)=o:=by
 unfold ofW; rw [if_pos (by omega),show ((i:Nat):Int).toNat=i by omega,List.getD_eq_getElem?_getD,h]; rfl
theorem qgH (h:¬ (0≤id∧id<256)):ofW As id=QE:=if_neg h
theorem qoz (hA:qc4 n As on) (hm:(wb,.cells 179 546 (q8 pb n As on))∈H) :qB Tryz.prog w0 H 100 [zp wb,zi id] (.agg (woC (ofW As id)).toArray):=by
 by_cases hi:0≤id∧id<256
 ·obtain ⟨i,rfl⟩:∃ i:Nat,id=(i:Int):=⟨id.toNat,by omega⟩
  obtain ⟨o,ho⟩:=hA.at (i:=i) zO
  rw [Xx (by omega) ho]
  exact qo2 zO ho hm
 ·rw [qgH hi]
  exact (qmw hi).at trivial
theorem qnj (h:qc4 n As on) (id:Int):0≤(ofW As id).prog∧(ofW As id).prog≤16:=by
 by_cases hi:0≤id∧id<256
 ·obtain ⟨i,rfl⟩:∃ i:Nat,id=(i:Int):=⟨id.toNat,by omega⟩
  obtain ⟨o,ho⟩:=h.at (i:=i) zO
  rw [Xx (by omega) ho]
  exact h.rng o (List.mem_of_getElem? ho)
 ·rw [qgH hi]; decide
def stateW (Q:List (Int × Int)) (As:List ZL) (id:Int):Int:=if (ofW As id).shut=true then 3 else if (ofW As id).prog=0 then 0 else if (whQ Q id).isSome=true then 2 else 1
theorem qmE (hA:qc4 n As on) (hm:(wb,.cells 179 546 (q8 pb n As on))∈H) :qB Tryz.prog w0 H 73 [zp wb,zi id] (.tuple #[zi (max ((ofW As id).prog-1) 0),.bool (decide (0<(ofW As id).prog))]):=by
 have hpr:=qnj hA id
 refine qc Tryz.func73 rfl Tryz.ntmps73 rfl rfl (za 7 rfl ?_)
 refine qn (zc2 rfl rfl) Tryz.call100 rfl (qoz (id:=id) hA (by repeat (first | exact hm | exact List.mem_cons_self | apply List.mem_cons_of_mem | apply List.mem_append_right))) ?_
 refine qp (l:=woC QE) Jr rfl rfl (fun b6=>?_)
 refine ql (l':=woC (ofW As id)) rfl rfl Jr rfl rfl (b:=b6) zM (by exact Nat.le_refl 2) rfl zU ?_
 refine qs (zh zk zK (zq 1 rfl ?_))
 refine qG (qj (v:=zi (ofW As id).prog) rfl ty3 rfl (qf.own (b:=b6) zM rfl)) rfl ?_
 refine qG (QU rfl rfl (Zw (m:=(ofW As id).prog-1) (zg zO))) rfl ?_
 refine qG (qma rfl rfl (m:=max ((ofW As id).prog-1) 0) (by split <;> omega)) rfl ?_
 refine zq 1 rfl ?_
 refine qG (qj (v:=zi (ofW As id).prog) rfl ty3 rfl (qf.own (b:=b6) zM rfl)) rfl ?_
 refine zq 3 rfl (zX ?_)
 refine qL (H2:=H) Tryz.results73 rfl rfl (.nil _) zH ?_
 exact ⟨rfl,rfl⟩
theorem qhn (hP:zb pb n Q Rs HP) (hn:n≤64) (hA:qc4 n As on) :qh Tryz.prog w0 35 #[zp wb,zi id] ((wb,.cells 179 546 (q8 pb n As on))::(HP++H)) (fun v H'=>v=zi (stateW Q As id)∧H'=(wb,.cells 179 546 (q8 pb n As on))::(HP++H)):=by
 refine qc (l:=[zp wb,zi id]) Tryz.func35 rfl Tryz.ntmps35 rfl rfl ?_
 refine za 6 rfl ?_
 refine qn (zc2 rfl rfl) Tryz.call100 rfl (qoz (id:=id) hA zM) ?_
 refine qp (l:=woC QE) Jr rfl rfl (fun b5=>?_)
 refine ql (l':=woC (ofW As id)) rfl rfl Jr rfl rfl (b:=b5) zM (by exact Nat.le_refl 2) rfl zU ?_
 refine za 5 rfl ?_
 refine qe (v:=.bool (ofW As id).shut) rfl ty4 rfl (qf.own (b:=b5) zM rfl) rfl ?_
 refine za 2 rfl ?_
 refine qm (p:=(ofW As id).shut=true) rfl (by simp) (fun c0=>?_) (fun c0=>?_)
 ·skip
  refine za 3 rfl ?_
  refine qd (H2:=(wb,.cells 179 546 (q8 pb n As on))::(HP++H)) Tryz.results35 rfl (.nil _) zH ?_
  exact ⟨by unfold stateW; rw [if_pos c0],rfl⟩
 ·skip
  refine za 2 rfl ?_
  refine qe (v:=zi (ofW As id).prog) rfl ty3 rfl (qf.own (b:=b5) zM rfl) rfl ?_
  refine za 3 rfl ?_
  refine qm (p:=(ofW As id).prog=0) rfl (by simp) (fun c1=>?_) (fun c1=>?_)
  ·skip
   refine za 3 rfl ?_
   refine qd (H2:=(wb,.cells 179 546 (q8 pb n As on))::(HP++H)) Tryz.results35 rfl (.nil _) zH ?_
   exact ⟨by unfold stateW; rw [if_neg c0,if_pos c1],rfl⟩
  ·skip
   refine za 7 rfl ?_
   refine qe (v:=zp pb) rfl Zf rfl (qf.own (b:=wb) zM rfl) rfl ?_
   refine qD rfl rfl ?_
   refine qk (zc2 rfl rfl) Tryz.call99 rfl ((qeg (id:=id) hP zO (H:=(b5,.cells 176 2 (woC (ofW As id)))::(wb,.cells 179 546 (q8 pb n As on))::H)).hsub zH) ?_
   rintro v H' ⟨rfl,rfl⟩
   rcases hwq:whQ Q id with _ | kq
   ·skip
    rw [show ZU none=.tuple #[zi 0,.bool false] from rfl]
    refine za 14 rfl ?_
    refine qd (H2:=(wb,.cells 179 546 (q8 pb n As on))::(HP++H)) Tryz.results35 rfl (.nil _) zH ?_
    exact ⟨by unfold stateW; rw [if_neg c0,if_neg c1,if_neg (by rw [hwq]; decide)],rfl⟩
   ·skip
    rw [show ZU (some kq)=.tuple #[zi kq,.bool true] from rfl]
    refine za 13 rfl ?_
    refine qd (H2:=(wb,.cells 179 546 (q8 pb n As on))::(HP++H)) Tryz.results35 rfl (.nil _) zH ?_
    exact ⟨by unfold stateW; rw [if_neg c0,if_neg c1,if_pos (by rw [hwq]; rfl)],rfl⟩
set_option maxRecDepth 100000
theorem qo6 (hn:1≤n∧n≤64) :qh Tryz.prog w0 106 #[zi (n:Int)] (H) (fun v H'=>∃ wb HW,v=.tuple #[zp wb,zi 0]∧Jm wb n [] [] (List.replicate 256 QE) (List.replicate 32 0) HW∧H'=HW++H):=by
 refine qc (l:=[zi (n:Int)]) Tryz.func106 rfl Tryz.ntmps106 rfl rfl ?_
 refine za 6 rfl (qk (zc1 rfl) Tryz.call195 rfl (qjx hn) ?_)
 rintro v H' ⟨pb,HP,rfl,hP,rfl⟩
 refine za 16 rfl ?_
 refine qX (l:=q8 pb n (List.replicate 256 QE) (List.replicate 32 0)) ty179 pl179 (.cons rfl rfl rfl rfl rfl (.cons rfl rfl rfl rfl rfl .nil)) rfl zk rfl ?_
 refine qK (l:=q8 pb n (List.replicate 256 QE) (List.replicate 32 0)) rfl rfl rfl (fun wb=>?_)
 refine za 3 rfl (qL Tryz.results106 rfl rfl (.nil _) (.refl _) ?_)
 exact ⟨wb,_,rfl,.mk hP ⟨List.length_replicate,fun o ho=>by rw [List.eq_of_mem_replicate ho]; decide,List.length_replicate,fun x hx=>by rw [List.eq_of_mem_replicate hx]; omega⟩ hn.2,rfl⟩
def Z1 (n:Nat) (Q:List (Int × Int)) (o:ZL) (i:Nat) (k:Nat):List (Int × Int) × Int:=if o.shut=true then (Q,22) else if o.prog=0 then (Q,1) else Za n Q (k:Int) [(i:Int)]
theorem qiF (hP:zb pb n Q Rs HP) (hn:n≤64) (hA:As[i]?=some o) {b3 b4:Nat} (hk:k<n) :qh Tryz.prog w0 96 #[.pointer (some ⟨wb,2+i*2,none⟩),zp b5,zp b3,zp b4] ((b5,.cells 3 1 [zi (k:Int)])::(b3,.cells 67 1 [zp wb])::(b4,.cells 3 1 [zi (i:Int)])::(wb,.cells 179 546 (q8 pb n As on))::(HP++H)) (fun v H'=>∃ HP2,zb pb n (Z1 n Q o i k).1 Rs HP2∧v=zi (Z1 n Q o i k).2∧H'=(b5,.cells 3 1 [zi (k:Int)])::(b3,.cells 67 1 [zp wb])::(b4,.cells 3 1 [zi (i:Int)])::(wb,.cells 179 546 (q8 pb n As on))::(HP2++H)):=by
 refine qc (l:=[.pointer (some ⟨wb,2+i*2,none⟩),zp b5,zp b3,zp b4]) Tryz.func96 rfl Tryz.ntmps96 rfl rfl ?_
 refine za 5 rfl (zh zk zK ?_)
 refine qG (qj (v:=zi (k:Int)) rfl ty3 rfl (qf.own (b:=b5) zM rfl)) rfl ?_
 refine zq 1 rfl ?_
 first | rw [decide_eq_true (by omega)] | rw [decide_eq_false (by omega)]
 refine zq 2 rfl ?_
 refine qG (qj (v:=zi (k:Int)) rfl ty3 rfl (qf.own (b:=b5) zM rfl)) rfl ?_
 refine zq 1 rfl ?_
 refine qG (qj (v:=zp wb) rfl Jn rfl (qf.own (b:=b3) zM rfl)) rfl ?_
 refine zq 5 rfl ?_
 refine qG (qj (v:=zi (n:Int)) rfl ty3 rfl (qf.own (b:=wb) zM rfl)) rfl ?_
 refine zq 2 rfl ?_
 first | rw [decide_eq_true (by omega)] | rw [decide_eq_false (by omega)]
 first | refine qG (zx rfl rfl) rfl ?_ | refine qG (zy rfl rfl) rfl ?_
 refine zq 1 rfl (zX (za 5 rfl ?_))
 refine qe (v:=.bool o.shut) rfl ty4 rfl (qf.own (b:=wb) zM (qdB hA)) rfl ?_
 refine za 2 rfl ?_
 refine qm (p:=o.shut=true) rfl (by simp) (fun q0=>?_) (fun q0=>?_)
 ·skip
  refine za 3 rfl ?_
  refine qd (H2:=(b5,.cells 3 1 [zi (k:Int)])::(b3,.cells 67 1 [zp wb])::(b4,.cells 3 1 [zi (i:Int)])::(wb,.cells 179 546 (q8 pb n As on))::(HP++H)) Tryz.results96 rfl (.nil _) zH ?_
  have e:Z1 n Q o i k=(Q,22):=if_pos q0
  rw [e]
  exact ⟨HP,hP,rfl,rfl⟩
 ·skip
  refine za 4 rfl ?_
  refine qe (v:=zi o.prog) rfl ty3 rfl (qf.own (b:=wb) zM (qmz hA)) rfl ?_
  refine za 3 rfl ?_
  refine qm (p:=o.prog=0) rfl (by simp) (fun q1=>?_) (fun q1=>?_)
  ·skip
   refine za 3 rfl ?_
   refine qd (H2:=(b5,.cells 3 1 [zi (k:Int)])::(b3,.cells 67 1 [zp wb])::(b4,.cells 3 1 [zi (i:Int)])::(wb,.cells 179 546 (q8 pb n As on))::(HP++H)) Tryz.results96 rfl (.nil _) zH ?_
   have e:Z1 n Q o i k=(Q,1):=by unfold Z1; rw [if_neg q0,if_pos q1]
   rw [e]
   exact ⟨HP,hP,rfl,rfl⟩
  ·skip
   refine za 3 rfl ?_
   refine W_anyC [(b5,.cells 3 1 [zi (k:Int)]),(b3,.cells 67 1 [zp wb]),(b4,.cells 3 1 [zi (i:Int)]),(wb,.cells 179 546 (q8 pb n As on))] zk ?_
   refine WC_take 0 rfl zK zK zK rfl rfl (qj (v:=zp wb) rfl Jn rfl (qf.own (b:=b3) zM rfl)) rfl ?_
   refine zw [1,2] rfl rfl ?_
   refine WC_take 3 rfl zK zK zK rfl rfl (qj (v:=zp pb) rfl Zf rfl (qf.own (b:=wb) zM rfl)) rfl ?_
   refine WC_take 4 rfl zK zK zK rfl rfl (qj (v:=zi (k:Int)) rfl ty3 rfl (qf.own (b:=b5) zM rfl)) rfl ?_
   refine WC_take 5 rfl zK zK zK rfl rfl (qj (v:=zi (i:Int)) rfl ty3 rfl (qf.own (b:=b4) zM rfl)) rfl ?_
   refine WC_one 6 zH zK rfl rfl ?_
   refine qy (l:=[zi (i:Int)]) qZ ty3 (.cons rfl rfl rfl rfl rfl .nil) rfl rfl rfl rfl rfl rfl rfl (fun b34=>?_)
   refine qs (WC_goal ?_)
   refine WC_one 7 zH zK rfl rfl ?_
   refine qk (zc3 rfl rfl rfl) Tryz.call94 rfl ((qo1 hP hn (cpu:=(k:Int)) (ids:=[(i:Int)]) (ad:=some ⟨b34,0,none⟩) (cap:=1) (by show 1≤1000000; decide) (Holds.own (b:=b34) zM) (H:=(b34,.cells 3 1 [zi (i:Int)])::(b5,.cells 3 1 [zi (k:Int)])::(b3,.cells 67 1 [zp wb])::(b4,.cells 3 1 [zi (i:Int)])::(wb,.cells 179 546 (q8 pb n As on))::H)).hsub zH) ?_
   rintro v H' ⟨HP2,hP2,rfl,rfl⟩
   refine qs (WC_goal (zw [8] rfl rfl (WC_done zH zK ?_)))
   refine qd (H2:=(b5,.cells 3 1 [zi (k:Int)])::(b3,.cells 67 1 [zp wb])::(b4,.cells 3 1 [zi (i:Int)])::(wb,.cells 179 546 (q8 pb n As on))::(HP2++H)) Tryz.results96 rfl (.nil _) zH ?_
   have e:Z1 n Q o i k=Za n Q (k:Int) [(i:Int)]:=by unfold Z1; rw [if_neg q0,if_neg q1]
   rw [e]
   exact ⟨HP2,hP2,rfl,rfl⟩
theorem qiN (hP:zb pb n Q Rs HP) (hn:n≤64) (hA:As[i]?=some o) (hi:i<256) (hk:k<n) :qh Tryz.prog w0 33 #[zp wb,zi (i:Int),zi (k:Int)] ((wb,.cells 179 546 (q8 pb n As on))::(HP++H)) (fun v H'=>∃ HP2,zb pb n (Z1 n Q o i k).1 Rs HP2∧v=zi (Z1 n Q o i k).2∧H'=(wb,.cells 179 546 (q8 pb n As on))::(HP2++H)):=by
 refine qc (l:=[zp wb,zi (i:Int),zi (k:Int)]) Tryz.func33 rfl Tryz.ntmps33 rfl rfl ?_
 refine ze ?_
 refine qK (l:=[zp wb]) rfl rfl rfl (fun b3=>?_)
 refine qK (l:=[zi (i:Int)]) rfl rfl rfl (fun b4=>?_)
 refine qK (l:=[zi (k:Int)]) rfl rfl rfl (fun b5=>?_)
 refine za 3 rfl ?_
 refine qe (v:=zp wb) rfl Jn rfl (qf.own (b:=b3) zM rfl) rfl ?_
 refine qe (v:=zi (i:Int)) rfl ty3 rfl (qf.own (b:=b4) zM rfl) rfl ?_
 refine qI .nil (.cons rfl (.cons rfl (.cons rfl .nil))) rfl ?_
 refine qk (zc3 rfl rfl rfl) Tryz.call95 rfl ((Kd (i:=i) (fi:=96) (ca:=[zp b5,zp b3,zp b4]) Tryz.call96 hi (qiF (b3:=b3) (b4:=b4) (b5:=b5) hP hn hA hk (H:=H)) ?_).hsub zH) ?_
 ·rintro v H2 ⟨_,_,e,_⟩
  exact ⟨_,e⟩
 rintro v H' ⟨HP2,hP2,rfl,rfl⟩
 refine za 2 rfl ?_
 refine qd (H2:=(wb,.cells 179 546 (q8 pb n As on))::(HP2++H)) Tryz.results33 rfl (.nil _) zH ?_
 exact ⟨HP2,hP2,rfl,rfl⟩
abbrev qfx (now a turn:Nat) (id:Int):Tm:=⟨id,(Qq now a).1,turn+1⟩
theorem Put_L {HW:qg} {bw a:Nat} (hW:zP bw now L turn HW) (hnow:now<18446744073709551615) (ha:a≤18446744073709551615) (hid:0≤id∧id<256) (hnew:id ∉ L.map (·.id)) (htn:turn≤4611686018427387904) :
  qh Tryz.prog w0 180 #[zp bw,zi id,zu ((a:Nat):Int)] (HW++H) (fun v H'=>∃ HW',zP bw now (L++[qfx now a turn id]) (turn+1) HW'∧v=.tuple #[.agg (Qq now a).1.v.toArray,zi 0]∧H'=HW'++H):=by
 cases hW with
 | @mk bm c sl XS bs l h =>
  obtain ⟨num,p1,p2,p3,p4,p5,p6,p7⟩:=qju (at_:=a) hnow
  obtain ⟨hv,hh⟩:=h.miss hnew
  have hs:(Qq now a).1.slot<64:=by rw [p3]; omega
  refine (qqh (e:=(Qq now a).1) h hnow ha hid htn (Prod.ext rfl p1) ⟨p2,hs⟩ hv hh).mono ?_
  rintro v H' ⟨v',X',z,rfl,hO,hz,rfl⟩
  exact ⟨_,.mk (h.put hid hnew ⟨p2,hs⟩ ⟨num,p3,p4,p5,p6,p7⟩ hO hz),rfl,rfl⟩
theorem QZ.hit {c:Nat} {sl:List Value} {bs:List Nat} {l:Qk Int} (h:QZ now L sl XS bs l c turn) {t:Tm} (ht:t∈L):(Ye l t.id).getD Xa=.agg (t.s.v++[Value.int .i64 ((t.turn:Nat):Int)]).toArray∧Z3 l t.id=true:=by
 have h1:Z3 l t.id=true:=J0.2 (h.keys.mem_iff.2 (List.mem_map_of_mem ht))
 refine ⟨?_,h1⟩
 cases hf:l.find? (fun p=>decide (t.id=p.1)) with
 | none =>
  exfalso
  obtain ⟨p,hp,e⟩:=List.mem_map.1 (J0.1 h1)
  have:=List.find?_eq_none.1 hf p hp
  exact this (decide_eq_true e.symm)
 | some p =>
  have h2a:=List.find?_some hf
  have h2:t.id=p.1:=of_decide_eq_true h2a
  obtain ⟨u,hu,e1,e2⟩:=h.val p (List.mem_of_find?_eq_some hf)
  obtain rfl:u=t:=KB h.nodup hu ht (by rw [e1,h2])
  unfold Ye
  rw [hf]
  exact e2
theorem qml {HW:qg} {bw a:Nat} (hW:zP bw 18446744073709551615 L turn HW) (hid:0≤id∧id<256) (ha:a≤18446744073709551615) (hnew:id ∉ L.map (·.id)) :
  qh Tryz.prog w0 180 #[zp bw,zi id,zu ((a:Nat):Int)] (HW++H) (fun v H'=>v=.tuple #[.agg qN.v.toArray,zi 12]∧H'=HW++H):=by
 cases hW with
 | @mk bm c sl XS bs l h =>
  obtain ⟨hv,hh⟩:=h.miss hnew
  refine (qiw hid ha h.row (bm:=bm) (c:=c) (l:=l) (turn:=turn) zM zM hv hh).mono ?_
  rintro v H' ⟨rfl,rfl⟩
  exact ⟨rfl,rfl⟩
theorem qjB (a b:Nat × Blk) (H:qg):a::b::H=(a::b::(List.replicate 512 ([]:qg)).flatten)++H:=by
 rw [List.flatten_replicate_nil]; rfl
theorem New_W:qh Tryz.prog w0 275 #[zu ((now:Nat):Int)] H (fun v H'=>∃ bw HW,v=zp bw∧zP bw now [] 0 HW∧H'=HW++H) :=
 by
 refine New_L.mono ?_
 rintro v H' ⟨bw,bm,rfl,rfl⟩
 refine ⟨bw,_,rfl,.mk (bm:=bm) .new,?_⟩
 exact qjB _ _ _
end Go.Proofs.YtincjohoncljoaaGreatDoor
