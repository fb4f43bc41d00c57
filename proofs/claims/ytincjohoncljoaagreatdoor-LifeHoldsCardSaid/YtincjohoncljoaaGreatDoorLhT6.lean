/-
  Own work: contracts of functions that the statement reaches, and plain facts on what they compute; each theorem says its conditions.
-/
import Derived.Test.YtincjohoncljoaaGreatDoorLhT5
import Derived.Test.YtincjohoncljoaaGreatDoorLhS2
import Derived.Test.YtincjohoncljoaaGreatDoorLhA
set_option linter.all false
set_option linter.unusedSimpArgs false
set_option linter.unusedVariables false
set_option maxHeartbeats 16000000
namespace Go.Proofs.YtincjohoncljoaaGreatDoor
open Go Go.Sl
variable {s:Slt} {n room bo cap tb T i mb ab kind entries words:Nat} {HB H HT HO HA:qe} {w0:World} {c:Cel} {m used:List Int} {ad:Option Addr} {C:List (Int × Hd)} {h g:Hd} {L:List Slt} {k how:Int} {closed:Bool}
attribute [local irreducible] W
theorem qkA {e:TypeId} {s:Nat} {v:Value} {xs:List Value} (h:zz e s v n xs HB):(v=.slice none 0 0∧n=0∧xs=[]∧HB=[])∨∃ b cap,v=.slice (some ⟨b,0,none⟩) n cap∧HB=[(b,.cells e (cap*s) xs)]∧n≤cap∧cap≤maxLen:=by
 cases h with
 | nil=>exact .inl ⟨rfl,rfl,rfl,rfl⟩
 | own h1 h2 h3=>exact .inr ⟨_,_,rfl,rfl,h2,h3⟩
theorem qfr {last c bm:Nat} {l:Qn Int} {τ:Int→Nat} (hO:QG room m last l c τ) (bk:Bool) (h64:room≤64) :qk Tryz.prog w0 224 #[zp bo,.bool bk] ((bo,.cells 372 3 [zi (room:Int),zi ((last:Nat):Int),.map (some bm)])::(bm,.obj (qS (Value.int .u64) l c))::H) (fun v H'=>∃ bl sv HB,v=.func (.func 315) #[] #[zp bl]∧zz 30 1 sv (if bk then m.reverse else m).length ((if bk then m.reverse else m).map (Value.int .u64)) HB∧H'=(bl,.cells 84 1 [sv])::(HB++((bo,.cells 372 3 [zi (room:Int),zi ((last:Nat):Int),.map (some bm)])::(bm,.obj (qS (Value.int .u64) l c))::H))):=by
 refine qd (l:=[zp bo,.bool bk]) Tryz.func224 rfl Tryz.ntmps224 rfl rfl ?_
 refine zo ?_
 refine qR rfl rfl rfl (fun b2=>?_)
 refine za 3 rfl ?_
 refine qA Zq rfl rfl (fun b5=>?_)
 refine za 3 rfl ?_
 refine qf rfl Yf rfl (qh.own (b:=b2) zM rfl) rfl ?_
 refine W_x (QD rfl rfl Yf) (fun _ h=>by cases h) rfl ?_
 refine za 4 rfl ?_
 refine qf rfl Yf rfl (qh.own (b:=b2) zM rfl) rfl ?_
 refine za 2 rfl ?_
 refine qf rfl Jf rfl (qh.own (b:=bo) zM rfl) rfl ?_
 refine qfg (kf:=(Value.int .u64)) (l:=l) (cl:=c) rfl Jf zM rfl (fun r=>?_)
 refine za 2 rfl ?_
 refine qV (X:=(Qn Int × Value × qe)) [(1,_),(2,_),(5,_),(13,_)] (fun (x:(Qn Int × Value × qe))=>[]) (fun _=>_) (fun (x:(Qn Int × Value × qe))=>(r,.obj (Jl bm c (x.1.map (·.2.2)) c))::(b5,.cells 84 1 [x.2.1])::(b2,.cells 215 1 [zp bo])::(x.2.2++((bo,.cells 372 3 [zi (room:Int),zi ((last:Nat):Int),.map (some bm)])::(bm,.obj (qS (Value.int .u64) l c))::H))) (fun (x:(Qn Int × Value × qe))=>(x.1.map (·.2.2)).Nodup∧(∀ p∈x.1,p∈l)∧zz 30 1 x.2.1 (x.1.map (·.1)).length ((x.1.map (·.1)).map (Value.int .u64)) x.2.2) (fun (x:(Qn Int × Value × qe))=>l.length-x.1.length) ([],.slice none 0 0,[]) ⟨.nil,(fun p hp=>(by cases hp)),.nil⟩ (qc rfl (qc rfl (qc rfl (qc rfl (qi _))))) (qi _) rfl (qr.refl _) ?_
 rintro ⟨vs,xv,XB⟩ ⟨hnd,hin,hX⟩
 dsimp only at hnd hin hX ⊢
 simp only [List.cons_append,List.nil_append]
 refine zo ?_
 refine qjQ (kf:=(Value.int .u64)) (l:=l) (cl:=c) (b:=bm) (r:=r) (since:=c) (c0:=c) (sl:=vs.map (·.2.2)) (HN:=fun p=>(r,.obj (Jl bm c (vs.map (·.2.2)++[p.2.2]) c))::(b5,.cells 84 1 [xv])::(b2,.cells 215 1 [zp bo])::(XB++((bo,.cells 372 3 [zi (room:Int),zi ((last:Nat):Int),.map (some bm)])::(bm,.obj (qS (Value.int .u64) l c))::H))) rfl zM zM hO.ok.lt (Nat.le_refl _) (fun p=>.head _) rfl (fun hall=>?_) (fun p hp hnp=>?_)
 ·skip
  refine za 6 rfl ?_
  have hp:=qaR hO.ok hnd hin hall
  have hpm:(vs.map (·.1)).Perm m:=(hp.map _).trans hO.keys
  have hlen:(vs.map (·.1)).length=m.length:=hpm.length_eq
  rcases qkA hX with ⟨rfl,hn0,-,rfl⟩ | ⟨b,cap,rfl,rfl,hcap,hmax⟩
  ·skip
   refine qf (v:=.slice none 0 0) rfl Zq rfl (qh.own (b:=b5) zM rfl) rfl ?_
   refine qL .nil (.cons rfl .nil) rfl ?_
   refine zI (zc2 rfl rfl) Tryz.call311 rfl (T:=fun _=>True) trivial (qgT _) ?_
   refine za 5 rfl ?_
   refine XA rfl (fun c0=>?_) (fun c0=>?_)
   ·skip
    refine Zn ?_
    refine qf (v:=.slice none 0 0) rfl Zq rfl (qh.own (b:=b5) zM rfl) rfl ?_
    refine zI (zc1 rfl) Tryz.call314 rfl (T:=fun _=>True) trivial qg5 ?_
    refine za 2 rfl (qL .nil (.cons rfl .nil) rfl (za 2 rfl ?_))
    refine qj (H2:=(b5,.cells 84 1 [.slice none 0 0])::([]++((bo,.cells 372 3 [zi (room:Int),zi ((last:Nat):Int),.map (some bm)])::(bm,.obj (qS (Value.int .u64) l c))::H))) Tryz.results224 rfl (.nil _) zH ?_
    have hm0:m=[]:=List.eq_nil_of_length_eq_zero zO
    subst hm0
    exact ⟨b5,.slice none 0 0,[],rfl,by rw [if_pos c0]; exact .nil,rfl⟩
   ·skip
    refine za 2 rfl (qL .nil (.cons rfl .nil) rfl (za 2 rfl ?_))
    refine qj (H2:=(b5,.cells 84 1 [.slice none 0 0])::([]++((bo,.cells 372 3 [zi (room:Int),zi ((last:Nat):Int),.map (some bm)])::(bm,.obj (qS (Value.int .u64) l c))::H))) Tryz.results224 rfl (.nil _) zH ?_
    have hm0:m=[]:=List.eq_nil_of_length_eq_zero zO
    subst hm0
    exact ⟨b5,.slice none 0 0,[],rfl,by rw [if_neg (by rw [c0]; simp)]; exact .nil,rfl⟩
  ·skip
   refine qf (v:=.slice (some ⟨b,0,none⟩) (vs.map (·.1)).length cap) rfl Zq rfl (qh.own (b:=b5) zM rfl) rfl ?_
   refine qL .nil (.cons rfl .nil) rfl ?_
   rw [List.singleton_append]
   have hcc:=qke (w0:=w0) (b2:=b2) (bo:=bo) (bm:=bm) (H:=(b5,.cells 84 1 [.slice (some ⟨b,0,none⟩) (vs.map (·.1)).length cap])::H) (b:=b) (tot:=cap*1) (cap:=cap) (d:=vs.map (·.1)) hO (by have:=hO.le; omega)
   refine qn (zc2 rfl rfl) Tryz.call311 rfl (hcc.hsub (.cons zT (.cons zT (.cons zT (.cons zT (.cons zT (.drop (.refl _)))))))) ?_
   rintro v H' ⟨rfl,d',hd',hsd,rfl⟩
   obtain rfl:d'=m:=qd2 (hd'.trans hpm) hO.nodup hO.asc hsd
   rw [hlen]
   refine za 5 rfl ?_
   refine XA rfl (fun c0=>?_) (fun c0=>?_)
   ·skip
    refine Zn ?_
    refine qf (v:=(.slice (some ⟨b,0,none⟩) d'.length cap)) rfl Zq rfl (qh.own (b:=b5) zM rfl) rfl ?_
    refine qn (zc1 rfl) Tryz.call314 rfl ((qmt (b:=b) (tot:=cap*1) (cap:=cap) (d:=d') (by have:=hO.le; omega)).hsub (.cons zT (.refl _))) ?_
    rintro v H' ⟨rfl,rfl⟩
    refine za 2 rfl (qL .nil (.cons rfl .nil) rfl (za 2 rfl ?_))
    refine qj (H2:=(b5,.cells 84 1 [(.slice (some ⟨b,0,none⟩) d'.length cap)])::([(b,.cells 30 (cap*1) ((d'.reverse).map (Value.int .u64)))]++((bo,.cells 372 3 [zi (room:Int),zi ((last:Nat):Int),.map (some bm)])::(bm,.obj (qS (Value.int .u64) l c))::H))) Tryz.results224 rfl (.nil _) zH ?_
    refine ⟨b5,_,_,rfl,?_,rfl⟩
    rw [if_pos c0]
    have h:=zz.own (e:=30) (s:=1) (b:=b) (n:=(d'.reverse).length) (cap:=cap) (xs:=(d'.reverse).map (Value.int .u64)) (by simp) (by first | omega | (rw [List.length_reverse]; omega)) hmax
    rwa [List.length_reverse] at h ⊢
   ·skip
    refine za 2 rfl (qL .nil (.cons rfl .nil) rfl (za 2 rfl ?_))
    refine qj (H2:=(b5,.cells 84 1 [(.slice (some ⟨b,0,none⟩) d'.length cap)])::([(b,.cells 30 (cap*1) ((d').map (Value.int .u64)))]++((bo,.cells 372 3 [zi (room:Int),zi ((last:Nat):Int),.map (some bm)])::(bm,.obj (qS (Value.int .u64) l c))::H))) Tryz.results224 rfl (.nil _) zH ?_
    refine ⟨b5,_,_,rfl,?_,rfl⟩
    rw [if_neg (by rw [c0]; simp)]
    have h:=zz.own (e:=30) (s:=1) (b:=b) (n:=(d').length) (cap:=cap) (xs:=(d').map (Value.int .u64)) (by simp) (by first | omega | (rw [List.length_reverse]; omega)) hmax
    exact h
 ·skip
  refine za 7 rfl ?_
  refine qfi (kf:=(Value.int .u64)) (l:=l) (cl:=c) (b:=bm) (r:=r) (since:=c) (sl:=vs.map (·.2.2)) (p:=p) rfl zM zM hp hO.ok rfl ?_
  refine za 4 rfl ?_
  refine qf (v:=xv) rfl Zq rfl (qh.own (b:=b5) zM rfl) rfl ?_
  refine qH rfl rfl ?_
  refine qv (l:=[(Value.int .u64) p.1]) Zq zX (.cons rfl rfl rfl rfl rfl .nil) rfl rfl rfl rfl rfl rfl rfl (fun b20=>?_)
  refine QF (news:=[(Value.int .u64) p.1]) (m:=1) (HB:=XB) (H0:=(r,.obj (Jl bm c (vs.map (·.2.2)++[p.2.2]) c))::(b5,.cells 84 1 [xv])::(b2,.cells 215 1 [zp bo])::((bo,.cells 372 3 [zi (room:Int),zi ((last:Nat):Int),.map (some bm)])::(bm,.obj (qS (Value.int .u64) l c))::H)) rfl rfl Zq zX rfl (by decide) hX rfl (Holds.own List.mem_cons_self) rfl (by have:=X8 hnd hin hp hnp; rw [List.length_map]; have:=hO.len; have:=hO.le; simp only [maxLen]; omega) (by have:=X8 hnd hin hp hnp; rw [List.length_map]; have:=hO.len; have:=hO.le; omega) zH rfl (fun v' HB' hO'=>?_)
  refine qy (l':=[v']) rfl rfl Zq (by obtain ⟨a0,c0',e0,_⟩:=hO'.shape; rw [e0]; rfl) rfl (b:=b5) zM rfl rfl zU ?_
  refine za 2 rfl ?_
  refine qI (vs++[p],v',HB') ⟨by show ((vs++[p]).map (·.2.2)).Nodup; rw [List.map_append]; exact List.nodup_append.2 ⟨hnd,by simp,fun x hx y hy e=>hnp (by obtain rfl:y=p.2.2:=(by simpa using hy); exact e ▸ hx)⟩,fun q hq=>(List.mem_append.1 hq).elim (hin q) (fun h=>by obtain rfl:q=p:=(by simpa using h); exact hp),by show zz _ _ v' ((vs++[p]).map (·.1)).length (((vs++[p]).map (·.1)).map (Value.int .u64)) HB'; simp only [List.map_append,List.length_append,List.map_cons,List.map_nil,List.length_cons,List.length_nil] at hO' ⊢; exact hO'⟩ (by show l.length-(vs++[p]).length<l.length-vs.length; have:=X8 hnd hin hp hnp; rw [List.length_append,List.length_singleton]; omega) (qc rfl (qc rfl (qc rfl (qc rfl (qi _))))) rfl (by simp only [List.map_append,List.map_cons,List.map_nil]; first | exact ZW | (repeat (first | with_reducible exact qr.refl _ | refine qr.cons zT ?_ | refine qr.app zS ?_ | exact qr.nil _ | exact qr.refl _ | refine qr.drop ?_ | refine qr.dropS ?_)))
theorem qfz {lp bl:Nat} {q:List Int} (J:Nat→qe→Prop) (S:qe→Prop) (hq:q.length≤4611686018427387904) (hrow:Holds w0 ((bl,.cells 84 1 [.slice ad q.length cap])::(HB++[])) ad (q.map (Value.int .u64)))
  (hround:∀ i z Hi,q[i]?=some z→J i Hi→Zp Tryz.prog w0 lp #[(Value.int .u64) z] ((bl,.cells 84 1 [.slice ad q.length cap])::(HB++Hi)) (fun v H'=>∃ Hi',qr H' ((bl,.cells 84 1 [.slice ad q.length cap])::(HB++Hi'))∧(v=.bool true∧J (i+1) Hi'∨v=.bool false∧S Hi'))) (hJ:J 0 H) :
  qk Tryz.prog w0 315 #[.func (.yield lp) #[] #[],zp bl] ((bl,.cells 84 1 [.slice ad q.length cap])::(HB++H)) (fun _ H'=>∃ Hi',qr H' ((bl,.cells 84 1 [.slice ad q.length cap])::(HB++Hi'))∧(J q.length Hi'∨S Hi')):=by
 refine qd (l:=[.func (.yield lp) #[] #[],zp bl]) Tryz.func315 rfl Tryz.ntmps315 rfl rfl ?_
 refine zo ?_
 refine qf (v:=.slice ad q.length cap) rfl Zq rfl (qh.own (b:=bl) zM rfl) rfl ?_
 refine zY rfl Zq rfl rfl (za 3 rfl ?_)
 refine qV (X:=(Nat × qe)) [(0,_),(5,_),(6,_)] (fun (x:(Nat × qe))=>[(7,zi (x.1:Int))]) (fun _=>_) (fun (x:(Nat × qe))=>(bl,.cells 84 1 [.slice ad q.length cap])::(HB++x.2)) (fun (x:(Nat × qe))=>x.1≤q.length∧J x.1 x.2) (fun (x:(Nat × qe))=>q.length-x.1) (0,H) ⟨Nat.zero_le _,hJ⟩ (qc rfl (qc rfl (qc rfl (qi _)))) (qc rfl (qi _)) rfl (qr.refl _) ?_
 rintro ⟨i,Hi⟩ ⟨hi,hJi⟩
 dsimp only at hi hJi ⊢
 simp only [List.cons_append,List.nil_append]
 refine za 4 rfl ?_
 refine qq (p:=(i:Int)<(q.length:Int)) rfl (by simp) (fun c0=>?_) (fun c0=>?_)
 ·skip
  refine za 4 rfl ?_
  obtain ⟨z,hz⟩:∃ z,q[i]?=some z:=⟨_,List.getElem?_eq_getElem zO⟩
  obtain ⟨q0,p0,rfl,hcz⟩:=hrow.at (i:=i) (v:=(Value.int .u64) z) (by rw [List.getElem?_map,hz]; rfl)
  refine qN (j:=i) rfl rfl Zq zX rfl zO rfl rfl ?_
  refine qf (v:=(Value.int .u64) z) rfl zX rfl (by rw [Nat.mul_one]; exact hcz.up (.cons (.here _) (.app (.here _) (.nil _)))) rfl ?_
  refine za 5 rfl (JP rfl (.cons rfl .nil) rfl (hround i z Hi hz hJi) ?_)
  rintro v H' ⟨Hi',hsub,⟨rfl,hJ'⟩ | ⟨rfl,hS'⟩⟩
  ·skip
   refine qT hsub ?_
   refine za 6 rfl ?_
   refine qF rfl rfl (qM (m:=((i+1:Nat):Int)) ((qao zO).trans zO)) rfl ?_
   refine za 2 rfl ?_
   refine qI (i+1,Hi') ⟨by show i+1≤q.length; omega,hJ'⟩ (by show q.length-(i+1)<q.length-i; omega) (qc rfl (qc rfl (qc rfl (qc rfl (qi _))))) rfl (qr.refl _)
  ·skip
   refine qT hsub ?_
   refine za 3 rfl (JQ Tryz.results315 (.nil _) (.refl _) ?_)
   exact ⟨Hi',.refl _,.inr hS'⟩
 ·skip
  refine J7 rfl (Zf Tryz.results315 (.nil _) (.refl _) ?_)
  obtain rfl:i=q.length:=by omega
  exact ⟨Hi,.refl _,.inl hJi⟩
def qcC (q:List Int):Value:=match q[0]? with
 | some z=>.tuple #[(Value.int .u64) z,.bool true]
 | none=>.tuple #[(.int .u64 0),.bool false]
theorem qi4 {bl:Nat} {q:List Int} (hq:q.length≤4611686018427387904) (hrow:Holds w0 ((bl,.cells 84 1 [.slice ad q.length cap])::(HB++[])) ad (q.map (Value.int .u64))) :
  qk Tryz.prog w0 238 #[.func (.func 315) #[] #[zp bl]] ((bl,.cells 84 1 [.slice ad q.length cap])::(HB++H)) (fun v H'=>v=qcC q∧H'=(bl,.cells 84 1 [.slice ad q.length cap])::(HB++H)):=by
 refine qd (l:=[.func (.func 315) #[] #[zp bl]]) Tryz.func238 rfl Tryz.ntmps238 rfl rfl ?_
 refine zo ?_
 refine qA zX rfl rfl (fun b2=>?_)
 refine qA ty4 rfl rfl (fun b3=>?_)
 refine za 6 rfl (QE rfl Tryz.call315 ?_)
 intro lp D r hst hpd hps hasg hbody hA
 have hr:=QV hst hpd
 show qk _ _ _ #[_,_] _ _
 refine ((qfz (HB:=HB) (bl:=bl) (ad:=ad) (cap:=cap) (q:=q) (H:=(lp,.obj (.loop r))::(D,.obj (.deferred (some [])))::(b3,.cells 4 1 [.bool false])::(b2,.cells 30 1 [(zu 0)])::H) (fun i Hi=>i=0∧Hi=(lp,.obj (.loop r))::(D,.obj (.deferred (some [])))::(b3,.cells 4 1 [.bool false])::(b2,.cells 30 1 [(zu 0)])::H) (fun Hi=>∃ z,q[0]?=some z∧Hi=(lp,.obj (.loop (Loop.at r .done (some .ret))))::(D,.obj (.deferred (some [])))::(b3,.cells 4 1 [.bool true])::(b2,.cells 30 1 [(Value.int .u64) z])::H) hq hrow ?_ ⟨rfl,rfl⟩).hsub zH).mono ?_
 ·intro i z Hi hz hJ
  obtain ⟨rfl,rfl⟩:=hJ
  refine QB hst hpd hA hps rfl hasg rfl rfl rfl zT ?_
  refine za 3 rfl (JS hst hpd zT hbody (za 3 rfl ?_))
  refine qy (l':=[(Value.int .u64) z]) rfl rfl zX rfl rfl (b:=b2) zM rfl rfl zU ?_
  refine qy (l':=[.bool true]) rfl rfl ty4 rfl rfl (b:=b3) zM rfl rfl zU ?_
  refine qs (XV zT ?_)
  exact ⟨(lp,.obj (.loop (Loop.at r .done (some .ret))))::(D,.obj (.deferred (some [])))::(b3,.cells 4 1 [.bool true])::(b2,.cells 30 1 [(Value.int .u64) z])::H,zH,.inr ⟨rfl,z,hz,rfl⟩⟩
  skip
 ·intro _ H' hp
  obtain ⟨Hi',hs,hJS⟩:=hp
  rcases hJS with ⟨hq0,rfl⟩ | ⟨z,hz,rfl⟩
  case inr =>
   refine ⟨.done,some .ret,(bl,.cells 84 1 [.slice ad q.length cap])::(HB++((D,.obj (.deferred (some [])))::(b3,.cells 4 1 [.bool true])::(b2,.cells 30 1 [(Value.int .u64) z])::H)),hs.trans zH,by decide,?_⟩
   show W _ _ _ _ _ _ _ _ _
   refine zC (H2:=(bl,.cells 84 1 [.slice ad q.length cap])::(HB++H)) Tryz.results238 (.cons zT (.nil _)) (.one rfl zX rfl (qh.own (b:=b2) zM rfl)) (.one rfl ty4 rfl (qh.own (b:=b3) zM rfl)) zH ?_
   exact ⟨by unfold qcC; rw [hz],rfl⟩
  refine ⟨.ready,none,(bl,.cells 84 1 [.slice ad q.length cap])::(HB++((D,.obj (.deferred (some [])))::(b3,.cells 4 1 [.bool false])::(b2,.cells 30 1 [(zu 0)])::H)),by rw [hr]; exact hs.trans zH,by decide,?_⟩
  show W _ _ _ _ _ _ _ _ _
  refine za 6 rfl ?_
  refine qy (l':=[(zu 0)]) rfl rfl zX rfl rfl (b:=b2) zM rfl rfl zU ?_
  refine qy (l':=[.bool false]) rfl rfl ty4 rfl rfl (b:=b3) zM rfl rfl zU ?_
  refine qs ?_
  refine zC (H2:=(bl,.cells 84 1 [.slice ad q.length cap])::(HB++H)) Tryz.results238 (.cons zT (.nil _)) (.one rfl zX rfl (qh.own (b:=b2) zM rfl)) (.one rfl ty4 rfl (qh.own (b:=b3) zM rfl)) zH ?_
  have hn:q=[]:=List.eq_nil_of_length_eq_zero hq0
  subst hn
  exact ⟨rfl,rfl⟩
def qfW (q:List Int):Value:=match q[0]? with
 | some z=>(Value.int .u64) z
 | none=>(.int .u64 0)
theorem qf1 (q:List Int):qcC q=.tuple #[qfW q,.bool (!q.isEmpty)]:=by
 unfold qcC qfW
 cases q <;> rfl
theorem qgo {last c bm:Nat} {l:Qn Int} {τ:Int→Nat} (hO:QG room m last l c τ) (h64:room≤64) :qk Tryz.prog w0 147 #[zp bo] ((bo,.cells 372 3 [zi (room:Int),zi ((last:Nat):Int),.map (some bm)])::(bm,.obj (qS (Value.int .u64) l c))::H) (fun v H'=>v=.tuple #[qfW (m),.bool (!(m).isEmpty)]∧H'=(bo,.cells 372 3 [zi (room:Int),zi ((last:Nat):Int),.map (some bm)])::(bm,.obj (qS (Value.int .u64) l c))::H):=by
 have hml:m.length≤64:=Nat.le_trans hO.le h64
 refine qd (l:=[zp bo]) Tryz.func147 rfl Tryz.ntmps147 rfl rfl ?_
 refine za 6 rfl ?_
 refine qn (zc2 rfl rfl) Tryz.call224 rfl ((qfr (H:=H) hO false h64).hsub zH) ?_
 rintro v H' ⟨bl,sv,HB,rfl,hS,rfl⟩
 simp only [Bool.false_eq_true,if_false] at hS
 obtain ⟨ad,cap,rfl,_,_,hrw⟩:=Holds.of_own (w0:=w0) (H:=HB++[]) hS (fun p hp=>List.mem_append_left _ hp)
 refine qn (zc1 rfl) Tryz.call238 rfl (qi4 (H:=(bo,.cells 372 3 [zi (room:Int),zi ((last:Nat):Int),.map (some bm)])::(bm,.obj (qS (Value.int .u64) l c))::H) (HB:=HB) (bl:=bl) (ad:=ad) (q:=m) (by (try rw [List.length_reverse]); omega) (hrw.up (.drop (.refl _)))) ?_
 rintro v H' ⟨rfl,rfl⟩
 rw [qf1]
 refine za 5 rfl ?_
 refine qP (H2:=(bo,.cells 372 3 [zi (room:Int),zi ((last:Nat):Int),.map (some bm)])::(bm,.obj (qS (Value.int .u64) l c))::H) Tryz.results147 rfl rfl (.nil _) zH ?_
 exact ⟨rfl,rfl⟩
inductive QZ (ab:Nat) (L:List Slt):qe→Prop
 | mk {sb u f:Nat} (hu:zt 1 L u) (hf:zt 0 L f) (hk:QS L):QZ ab L [(ab,.cells 345 3 [.slice (some ⟨sb,0,none⟩) L.length L.length,.int .u64 ((u:Nat):Int),.int .u64 ((f:Nat):Int)]),(sb,.cells 377 (L.length*7) ((L).flatMap QO))]
inductive QR (tb room:Nat) (C:List (Int × Hd)):qe→Prop
 | mk {cb:Nat} {vs:List Value} {Hs:List qe} (hT:TabIs C vs Hs):QR tb room C ((tb,.cells 348 3 [.slice (some ⟨cb,0,none⟩) 8 8,.int .i64 (room:Int),.int .i64 ((C.length:Nat):Int)])::(cb,.cells 482 8 vs)::Hs.flatten)
theorem QR.nd (h:QR tb room C HT):(QX C).Nodup∧C.length≤64:=by
 cases h with
 | mk hT=>exact ⟨hT.nd,hT.len⟩
inductive ZP (bo room T:Nat) (m:List Int):qe→Prop
 | mk {bm last c:Nat} {l:Qn Int} {τ:Int→Nat} (hO:QG room m last l c τ) (hl:last≤T):ZP bo room T m [(bo,.cells 372 3 [.int .i64 (room:Int),.int .i64 ((last:Nat):Int),.map (some bm)]),(bm,.obj (qS (Value.int .u64) l c))]
theorem ZP.up {T':Nat} (h:ZP bo room T m HO) (hl:T≤T'):ZP bo room T' m HO:=by
 cases h with
 | mk hO h1=>exact .mk hO (Nat.le_trans h1 hl)
section
variable {w0:World} {H HA HT HO:qe} {ab tb bo room T:Nat} {L:List Slt} {C:List (Int × Hd)} {m:List Int}
theorem QZ.put (hA:QZ ab L HA) (hTab:Tab w0) (hfi:Zx L=some i) (hs:L[i]?=some s) :
  qk Tryz.prog w0 241 #[zp ab,.agg (List.toArray (zQ c))] (HA++H) (fun v H'=>∃ HA',QZ ab (L.set i { s with st:=1,cel:=c }) HA'∧v=.tuple #[.agg (List.toArray (hdC s.own)),zi 0]∧H'=HA'++H):=by
 cases hA with
 | mk hu hf hk =>
  refine (qnh (ab:=ab) (H:=H) hu hf hk hfi hs (c:=c) hTab).mono ?_
  rintro v H' ⟨u',f',rfl,hu',hf',rfl⟩
  exact ⟨_,.mk hu' hf' (hk.set (hk.own i s hs)),rfl,by rw [List.length_set]; rfl⟩
theorem QZ.get (hA:QZ ab L HA) (hm:∀ p∈HA,p∈H) :qG Tryz.prog w0 H 245 [zp ab,.agg (List.toArray (hdC h))] (.tuple #[.agg (List.toArray (zQ (Zz L h))),zi (zA L h)]):=by
 cases hA with
 | mk hu hf hk=>exact Get_q hu hk (hm _ List.mem_cons_self) (hm _ (List.mem_cons_of_mem _ List.mem_cons_self))
theorem QZ.lenq (hA:QZ ab L HA) (hm:∀ p∈HA,p∈H):qG Tryz.prog w0 H 125 [zp ab] (zi ((XT 1 L:Nat):Int)):=by
 cases hA with
 | mk hu hf hk=>exact qnp hu hk (hm _ List.mem_cons_self)
theorem QZ.roomq (hA:QZ ab L HA) (hm:∀ p∈HA,p∈H):qG Tryz.prog w0 H 237 [zp ab] (zi ((XT 0 L:Nat):Int)):=by
 cases hA with
 | mk hu hf hk=>exact qlI hf hk (hm _ List.mem_cons_self)
theorem KS (L:List Slt) (h:Hd) (c:Cel):(QS L→QS (Qa L h (fun s=>{ s with cel:=c })))∧∀ n m,zt n L m→zt n (Qa L h (fun s=>{ s with cel:=c })) m:=by
 by_cases he:zA L h=0
 ·obtain ⟨i,s,hi,hs,hu,ho,hc,hset⟩:=JN he
  rw [hset]
  exact ⟨fun hk=>hk.set (hk.own i s hs),fun n m h=>h.same hs Iff.rfl⟩
 ·rw [(YR he).2]
  exact ⟨id,fun _ _ h=>h⟩
theorem QZ.set (hA:QZ ab L HA) :qk Tryz.prog w0 144 #[zp ab,.agg (List.toArray (hdC h)),.agg (List.toArray (zQ c))] (HA++H) (fun v H'=>∃ HA',QZ ab (Qa L h (fun s=>{ s with cel:=c })) HA'∧v=zi (zA L h)∧H'=HA'++H):=by
 cases hA with
 | mk hu hf hk =>
  refine (qnf (ab:=ab) (H:=H) hu hk (h:=h) (c:=c)).mono ?_
  rintro v H' ⟨rfl,rfl⟩
  exact ⟨_,.mk ((KS L h c).2 _ _ hu) ((KS L h c).2 _ _ hf) ((KS L h c).1 hk),rfl,by rw [JU]; rfl⟩
theorem qfx (hk:QS L):QS (Qa L h JX):=by
 by_cases he:zA L h=0
 ·obtain ⟨i,s,hi,hs,hu,ho,hc,hset⟩:=JN he
  rw [hset]; exact hk.rel hs
 ·rw [(YR he).2]; exact hk
theorem QZ.free (hA:QZ ab L HA) (hrow:Holds w0 H ad (hdC h)):qk Tryz.prog w0 255 #[zp ab,.slice ad 1 cap] (HA++H) (fun v H'=>∃ HA',QZ ab (Qa L h JX) HA'∧v=zi (zA L h)∧H'=HA'++H):=by
 cases hA with
 | mk hu hf hk =>
  refine (qns (ab:=ab) (H:=H) hu hf hk (h:=h) (cap:=cap) hrow).mono ?_
  rintro v H' ⟨u',f',rfl,hu',hf',rfl⟩
  exact ⟨_,.mk hu' hf' (qfx hk),rfl,by rw [JU]; rfl⟩
theorem QZ.new (h1:1≤n) (h2:n≤64):qk Tryz.prog w0 170 #[zi (n:Int)] H (fun v H'=>∃ ab HA,QZ ab (Yz n n) HA∧v=.tuple #[zp ab,zi 0]∧H'=HA++H):=by
 refine (qnn (w0:=w0) (H:=H) h1 h2).mono ?_
 rintro v H' ⟨ab,sb,rfl,rfl⟩
 refine ⟨ab,_,.mk (sb:=sb) qfK (qfL h1 h2) (qkE h1 h2),rfl,?_⟩
 rw [Q7]; rfl
theorem QR.get (hT:QR tb room C HT) (hm:∀ p∈HT,p∈H) :qG Tryz.prog w0 H 234 [zp tb,zu k] (qkW (Qz C k)):=by
 cases hT with
 | mk hT=>exact qnr hT hm
theorem QR.lenq (hT:QR tb room C HT) (hm:∀ p∈HT,p∈H):qG Tryz.prog w0 H 126 [zp tb] (zi (C.length:Int)):=by
 cases hT with
 | mk hT=>exact qno (hm _ List.mem_cons_self)
theorem QR.put (hT:QR tb room C HT) (hk:k ∉ QX C) (hr:C.length<room) (hr64:room≤64):qk Tryz.prog w0 242 #[zp tb,zu k,.agg (List.toArray (hdC h))] (HT++H) (fun v H'=>∃ HT',QR tb room ((k,h)::C) HT'∧v=.tuple #[.bool false,zi 0]∧H'=HT'++H):=by
 cases hT with
 | mk hT =>
  refine (qni (tb:=tb) (room:=room) (H:=H) hT (h:=h) hk hr hr64).mono ?_
  rintro v H' ⟨vs',Hs',rfl,hT',rfl⟩
  exact ⟨_,.mk hT',rfl,rfl⟩
theorem QR.del (hT:QR tb room C HT) {kc:Nat} (hrow:Holds w0 H ad [zu k]):qk Tryz.prog w0 239 #[zp tb,.slice ad 1 kc] (HT++H) (fun v H'=>∃ HT',QR tb room (Zh C k) HT'∧v=zi (qbt C k:Int)∧H'=HT'++H):=by
 cases hT with
 | mk hT =>
  refine (qnu (tb:=tb) (room:=room) (H:=H) hT (k:=k) (kc:=kc) hrow).mono ?_
  rintro v H' ⟨vs',Hs',rfl,hT',rfl⟩
  exact ⟨_,.mk hT',rfl,rfl⟩
theorem QR.new (h1:1≤room) (h2:room≤64):qk Tryz.prog w0 171 #[zi 8,zi (room:Int)] H (fun v H'=>∃ tb HT,QR tb room [] HT∧v=.tuple #[zp tb,zi 0]∧H'=HT++H):=by
 refine (qnl (w0:=w0) (H:=H) h1 h2).mono ?_
 rintro v H' ⟨tb,cb,rfl,rfl⟩
 exact ⟨tb,_,.mk TabIs.nil,rfl,rfl⟩
theorem qgN (h:k∈m∨m.length<room):Yq m room [k]=(zN m k++[k],0):=by
 have e:YL m room k=(zN m k++[k],0):=if_neg (fun h2=>by rcases h with h | h; exact h2.1 h; omega)
 show (if (YL m room k).2=0 then Yq (YL m room k).1 room [] else (m,3))=_
 rw [e]; rfl
theorem ZP.touch (hO:ZP bo room T m HO) (hT:T≤1000000) (hk:k∈m∨m.length<room) (hrow:Holds w0 H ad [zu k]):qk Tryz.prog w0 143 #[zp bo,.slice ad 1 cap] (HO++H) (fun v H'=>∃ HO',ZP bo room (T+1) (zN m k++[k]) HO'∧v=zi 0∧H'=HO'++H):=by
 cases hO with
 | mk hO hl =>
  refine (qgO (bo:=bo) (H:=H) hO (ks:=[k]) (cap:=cap) (by show _+1≤_; omega) hrow).mono ?_
  rintro v H' ⟨last',l',c',τ',rfl,hO',hl',rfl⟩
  rw [qgN hk] at hO' ⊢
  exact ⟨_,.mk hO' (by have:last'≤_+1:=hl'; omega),rfl,rfl⟩
theorem ZP.drop (hO:ZP bo room T m HO) :qk Tryz.prog w0 240 #[zp bo,zu k] (HO++H) (fun v H'=>∃ HO',ZP bo room T (zN m k) HO'∧v=.bool (inO m k)∧H'=HO'++H):=by
 cases hO with
 | mk hO hl =>
  refine (qlg (bo:=bo) (H:=H) hO k).mono ?_
  rintro v H' ⟨l',rfl,hO',rfl⟩
  exact ⟨_,.mk hO' hl,rfl,rfl⟩
theorem ZP.oldest (hO:ZP bo room T m HO) (h64:room≤64):qk Tryz.prog w0 147 #[zp bo] (HO++H) (fun v H'=>v=.tuple #[qfW m,.bool (!m.isEmpty)]∧H'=HO++H):=by
 cases hO with
 | mk hO hl=>exact qgo (bo:=bo) (H:=H) hO h64
theorem ZP.new (hz:1≤room∧room≤64):qk Tryz.prog w0 172 #[zi (room:Int)] H (fun v H'=>∃ bo HO,ZP bo room (0) [] HO∧v=.tuple #[zp bo,zi 0]∧H'=HO++H):=by
 refine (qmG (w0:=w0) (H:=H) hz).mono ?_
 rintro v H' ⟨bo,bm,rfl,rfl⟩
 exact ⟨bo,_,.mk (QG.nil room 0 (fun _=>0)) (Nat.le_refl _),rfl,rfl⟩
end
theorem qcp (hA:QZ ab L HA) (hB:QR tb entries C HT) (hO:ZP bo entries T used HO) (hTl:T≤1000000) (he:entries≤64) (hfi:Zx L=some i) (hs:L[i]?=some s) (hk:c.key ∉ QX C) (hr:C.length<entries) (hru:used.length<entries) (hTab:Tab w0):qk Tryz.prog w0 149 #[zp mb,.agg (List.toArray (zQ c))] ((mb,.cells 217 7 [zi (kind:Int),zi (entries:Int),zi (words:Int),zp ab,zp tb,zp bo,.bool closed])::(HA++(HT++(HO++H)))) (fun v H'=>∃ HA' HT' HO',QZ ab (L.set i { s with st:=1,cel:=c }) HA'∧QR tb entries ((c.key,s.own)::C) HT'∧ZP bo entries (T+1) (zN used c.key++[c.key]) HO'∧v=.tuple #[.agg (List.toArray (hdC s.own)),zi 0]∧H'=(mb,.cells 217 7 [zi (kind:Int),zi (entries:Int),zi (words:Int),zp ab,zp tb,zp bo,.bool closed])::(HA'++(HT'++(HO'++H)))):=by
 refine qd (l:=[zp mb,.agg (List.toArray (zQ c))]) Tryz.func149 rfl Tryz.ntmps149 rfl rfl ?_
 refine zo ?_
 refine qR rfl rfl rfl (fun b3=>?_)
 refine qA (l:=hdC zHd) qO rfl rfl (fun b4=>?_)
 refine za 3 rfl ?_
 refine qbD (X:=(qe × Nat)) (fun x=>[(0,zp mb),(3,zp b3),(4,zp b4),(6,.pointer (some ⟨x.2,0,none⟩)),(7,zi 0)]) (fun x=>(x.2,.cells 40 2 (hdC s.own))::(b4,.cells 40 2 (hdC zHd))::(b3,.cells 220 5 (zQ c))::(mb,.cells 217 7 [zi (kind:Int),zi (entries:Int),zi (words:Int),zp ab,zp tb,zp bo,.bool closed])::(x.1++(HT++(HO++H)))) (fun x=>QZ ab (L.set i { s with st:=1,cel:=c }) x.1) ?_ ?_
 ·skip
  refine zy [(mb,.cells 217 7 [zi (kind:Int),zi (entries:Int),zi (words:Int),zp ab,zp tb,zp bo,.bool closed]),(b3,.cells 220 5 (zQ c))] zk ?_
  refine zw [0,1,2] rfl rfl ?_
  refine qm 3 rfl zK zK zK rfl rfl (ql (v:=zp ab) rfl Z6 rfl (qh.own (b:=mb) zM rfl)) rfl ?_
  refine qm 4 rfl zK zK zK rfl rfl (Qf (vs:=zQ (c)) rfl Ql rfl (b:=b3) zM rfl rfl) rfl ?_
  refine qac 5 9 zH zK rfl rfl rfl rfl ?_ ?_
  ·skip
   refine qn (zc2 rfl rfl) Tryz.call241 rfl ((hA.put hTab hfi hs (c:=c) (H:=(mb,.cells 217 7 [zi (kind:Int),zi (entries:Int),zi (words:Int),zp ab,zp tb,zp bo,.bool closed])::(HT++(HO++((b4,.cells 40 2 (hdC zHd))::(b3,.cells 220 5 (zQ c))::H))))).hsub zH) ?_
   rintro v H' ⟨HA2,hA2,rfl,rfl⟩
   refine qs (WC_goal (zw [6,7,8] rfl rfl ?_))
   refine qJ 9 zH zK rfl rfl ?_
   refine qA (l:=hdC zHd) qO rfl rfl (fun b6=>?_)
   refine qs (WC_goal ?_)
   refine qJ 10 zH zK rfl rfl ?_
   refine qp (l':=hdC s.own) rfl rfl qO rfl rfl (b:=b6) zM (by exact Nat.le_refl 2) rfl zU ?_
   refine qs (WC_goal (zw [11] rfl rfl (WC_done zH zK ?_)))
   refine Z0 (HA2,b6) hA2 (qc rfl (qc rfl (qc rfl (qc rfl (qc rfl (qi _)))))) zH
  ·skip
   refine qA (l:=hdC zHd) qO rfl rfl (fun b6=>?_)
   refine qs (WC_goal ?_)
   refine qJ 5 zH zK rfl rfl ?_
   refine qn (zc2 rfl rfl) Tryz.call241 rfl ((hA.put hTab hfi hs (c:=c) (H:=(b6,.cells 40 2 (hdC zHd))::(mb,.cells 217 7 [zi (kind:Int),zi (entries:Int),zi (words:Int),zp ab,zp tb,zp bo,.bool closed])::(HT++(HO++((b4,.cells 40 2 (hdC zHd))::(b3,.cells 220 5 (zQ c))::H))))).hsub zH) ?_
   rintro v H' ⟨HA2,hA2,rfl,rfl⟩
   refine qs (WC_goal (zw [6,7,8] rfl rfl ?_))
   refine qJ 10 zH zK rfl rfl ?_
   refine qp (l':=hdC s.own) rfl rfl qO rfl rfl (b:=b6) zM (by exact Nat.le_refl 2) rfl zU ?_
   refine qs (WC_goal (zw [11] rfl rfl (WC_done zH zK ?_)))
   refine Z0 (HA2,b6) hA2 (qc rfl (qc rfl (qc rfl (qc rfl (qc rfl (qi _)))))) zH
 rintro ⟨HA2,b6⟩ hA2
 dsimp only at hA2 ⊢
 refine za 8 rfl ?_
 refine zy [(mb,.cells 217 7 [zi (kind:Int),zi (entries:Int),zi (words:Int),zp ab,zp tb,zp bo,.bool closed]),(b3,.cells 220 5 (zQ c)),(b6,.cells 40 2 (hdC s.own))] zk ?_
 refine zw [0,1,2] rfl rfl ?_
 refine qm 3 rfl zK zK zK rfl rfl (ql (v:=zp tb) rfl Yg rfl (qh.own (b:=mb) zM rfl)) rfl ?_
 refine zw [4] rfl rfl ?_
 refine qm 5 rfl zK zK zK rfl rfl (ql (v:=zu c.key) rfl zX rfl (qh.own (b:=b3) zM rfl)) rfl ?_
 refine qm 6 rfl zK zK zK rfl rfl (Qf (vs:=hdC s.own) rfl qO rfl (b:=b6) zM rfl rfl) rfl ?_
 refine qJ 7 zH zK rfl rfl ?_
 refine qn (zc3 rfl rfl rfl) Tryz.call242 rfl ((hB.put (h:=s.own) hk hr he (H:=(b6,.cells 40 2 (hdC s.own))::(b4,.cells 40 2 (hdC zHd))::(b3,.cells 220 5 (zQ c))::(mb,.cells 217 7 [zi (kind:Int),zi (entries:Int),zi (words:Int),zp ab,zp tb,zp bo,.bool closed])::(HA2++(HO++H)))).hsub zH) ?_
 rintro v H' ⟨HT2,hB2,rfl,rfl⟩
 refine qs (WC_goal (WC_done zH zK (qav ?_)))
 refine zy [(mb,.cells 217 7 [zi (kind:Int),zi (entries:Int),zi (words:Int),zp ab,zp tb,zp bo,.bool closed]),(b3,.cells 220 5 (zQ c))] zk ?_
 refine zw [0,1,2] rfl rfl ?_
 refine qm 3 rfl zK zK zK rfl rfl (ql (v:=zp bo) rfl Yf rfl (qh.own (b:=mb) zM rfl)) rfl ?_
 refine zw [4] rfl rfl ?_
 refine qm 5 rfl zK zK zK rfl rfl (ql (v:=zu c.key) rfl zX rfl (qh.own (b:=b3) zM rfl)) rfl ?_
 refine qJ 6 zH zK rfl rfl ?_
 refine qv (l:=[zu c.key]) Zq zX (.cons rfl rfl rfl rfl rfl .nil) rfl rfl rfl rfl rfl rfl rfl (fun b34=>?_)
 refine qs (WC_goal ?_)
 refine qJ 7 zH zK rfl rfl ?_
 refine qn (zc2 rfl rfl) Tryz.call143 rfl ((hO.touch hTl (k:=c.key) (cap:=1) (.inr hru) (Holds.own (b:=b34) zM) (H:=(b34,.cells 30 (1*1) [zu c.key])::(b6,.cells 40 2 (hdC s.own))::(b4,.cells 40 2 (hdC zHd))::(b3,.cells 220 5 (zQ c))::(mb,.cells 217 7 [zi (kind:Int),zi (entries:Int),zi (words:Int),zp ab,zp tb,zp bo,.bool closed])::(HA2++(HT2++H)))).hsub zH) ?_
 rintro v H' ⟨HO2,hO2,rfl,rfl⟩
 refine qs (WC_goal (WC_done zH zK (zo ?_)))
 refine qK (vs:=hdC s.own) rfl qO rfl (b:=b6) zM rfl rfl rfl ?_
 refine qp (l':=hdC s.own) rfl rfl qO rfl rfl (b:=b4) zM (by exact Nat.le_refl 2) rfl zU ?_
 refine za 2 rfl ?_
 refine zC (H2:=(mb,.cells 217 7 [zi (kind:Int),zi (entries:Int),zi (words:Int),zp ab,zp tb,zp bo,.bool closed])::(HA2++(HT2++(HO2++H)))) Tryz.results149 (.nil _) (.own (vs:=hdC s.own) rfl qO rfl (b:=b4) zM rfl) (.tmp rfl) zH ?_
 exact ⟨HA2,HT2,HO2,hA2,hB2,hO2,rfl,rfl⟩
theorem qbI (hB:QR tb entries C HT) (hO:ZP bo entries T used HO) :qk Tryz.prog w0 148 #[zp mb,zu k] ((mb,.cells 217 7 [zi (kind:Int),zi (entries:Int),zi (words:Int),zp ab,zp tb,zp bo,.bool closed])::(HA++(HT++(HO++H)))) (fun v H'=>∃ HT' HO',QR tb entries (Zh C k) HT'∧ZP bo entries T (zN used k) HO'∧v=.agg (List.toArray (hdC ((Qz C k).getD zHd)))∧H'=(mb,.cells 217 7 [zi (kind:Int),zi (entries:Int),zi (words:Int),zp ab,zp tb,zp bo,.bool closed])::(HA++(HT'++(HO'++H)))):=by
 refine qd (l:=[zp mb,zu k]) Tryz.func148 rfl Tryz.ntmps148 rfl rfl ?_
 refine zo ?_
 refine qA (l:=hdC zHd) qO rfl rfl (fun b4=>?_)
 refine za 5 rfl ?_
 refine qf (v:=zp tb) rfl Yg rfl (qh.own (b:=mb) zM rfl) rfl ?_
 refine qH rfl rfl ?_
 refine qB (zc2 rfl rfl) Tryz.call234 rfl (hB.get (k:=k) (fun p hp=>by repeat (first | exact List.mem_append_left _ hp | apply List.mem_cons_of_mem | apply List.mem_append_right))) ?_
 obtain ⟨g,hg⟩:∃ g,g=(Qz C k).getD zHd:=⟨_,rfl⟩
 unfold qkW
 rw [← hg]
 refine za 3 rfl ?_
 refine qA (l:=hdC zHd) qO rfl rfl (fun b5=>?_)
 refine qp (l':=hdC g) rfl rfl qO rfl rfl (b:=b5) zM (by exact Nat.le_refl 2) rfl zU ?_
 refine za 6 rfl ?_
 refine qf (v:=zp tb) rfl Yg rfl (qh.own (b:=mb) zM rfl) rfl ?_
 refine qH rfl rfl ?_
 refine qv (l:=[zu k]) Zq zX (.cons rfl rfl rfl rfl rfl .nil) rfl rfl rfl rfl rfl rfl rfl (fun b21=>?_)
 refine qn (zc2 rfl rfl) Tryz.call239 rfl ((hB.del (k:=k) (kc:=1) (Holds.own (b:=b21) zM) (H:=(b21,.cells 30 (1*1) [zu k])::(b5,.cells 40 2 (hdC g))::(b4,.cells 40 2 (hdC zHd))::(mb,.cells 217 7 [zi (kind:Int),zi (entries:Int),zi (words:Int),zp ab,zp tb,zp bo,.bool closed])::(HA++(HO++H)))).hsub zH) ?_
 rintro v H' ⟨HT2,hB2,rfl,rfl⟩
 refine za 5 rfl ?_
 refine qf (v:=zp bo) rfl Yf rfl (qh.own (b:=mb) zM rfl) rfl ?_
 refine qH rfl rfl ?_
 refine qn (zc2 rfl rfl) Tryz.call240 rfl ((hO.drop (k:=k) (H:=(b21,.cells 30 (1*1) [zu k])::(b5,.cells 40 2 (hdC g))::(b4,.cells 40 2 (hdC zHd))::(mb,.cells 217 7 [zi (kind:Int),zi (entries:Int),zi (words:Int),zp ab,zp tb,zp bo,.bool closed])::(HA++(HT2++H)))).hsub zH) ?_
 rintro v H' ⟨HO2,hO2,rfl,rfl⟩
 refine za 2 rfl ?_
 refine qK (vs:=hdC g) rfl qO rfl (b:=b5) zM rfl rfl rfl ?_
 refine qp (l':=hdC g) rfl rfl qO rfl rfl (b:=b4) zM (by exact Nat.le_refl 2) rfl zU ?_
 refine qs ?_
 refine ZZ (H2:=(mb,.cells 217 7 [zi (kind:Int),zi (entries:Int),zi (words:Int),zp ab,zp tb,zp bo,.bool closed])::(HA++(HT2++(HO2++H)))) Tryz.results148 rfl (.nil _) qO rfl (b:=b4) zM rfl zH ?_
 exact ⟨HT2,HO2,hB2,hO2,by rw [hg],rfl⟩
theorem qcQ (hB:QR tb entries C HT) (hm:∀ p∈((mb,.cells 217 7 [zi (kind:Int),zi (entries:Int),zi (words:Int),zp ab,zp tb,zp bo,.bool closed])::(HA++(HT++HO))),p∈H) :qG Tryz.prog w0 H 142 [zp mb,zu k] (.tuple #[.agg (List.toArray (hdC ((Qz C k).getD zHd))),zi (if (Qz C k).isSome then 0 else 4)]):=by
 refine qd Tryz.func142 rfl Tryz.ntmps142 rfl rfl (zo ?_)
 refine qA (l:=hdC zHd) qO rfl rfl (fun b4=>?_)
 refine za 5 rfl ?_
 refine W_x (qE rfl rfl Ya) (fun _ h=>by cases h) rfl ?_
 refine za 7 rfl ?_
 refine qf (v:=zp tb) rfl Yg rfl (qh.own (b:=mb) (by repeat (first | exact hm _ List.mem_cons_self | apply List.mem_cons_of_mem)) rfl) rfl ?_
 refine qH rfl rfl ?_
 refine qB (zc2 rfl rfl) Tryz.call234 rfl (hB.get (k:=k) (fun p hp=>by repeat (first | exact hm p (List.mem_cons_of_mem _ (List.mem_append_right _ (List.mem_append_left _ hp))) | apply List.mem_cons_of_mem))) ?_
 unfold qkW
 rcases hf:Qz C k with _ | g
 ·skip
  simp only [Option.getD_none,Option.isSome_none]
  refine za 3 rfl ?_
  refine qA (l:=hdC zHd) qO rfl rfl (fun b6=>?_)
  refine qp (l':=hdC zHd) rfl rfl qO rfl rfl (b:=b6) zM (by exact Nat.le_refl 2) rfl zU ?_
  refine za 9 rfl ?_
  refine zb (l:=hdC zHd) qO qhh .nil rfl rfl rfl ?_
  refine qp (l':=hdC zHd) rfl rfl qO rfl rfl (b:=b4) zM (by exact Nat.le_refl 2) rfl zU ?_
  refine za 2 rfl ?_
  refine zC (H2:=H) Tryz.results142 (.nil _) (.own (vs:=hdC zHd) rfl qO rfl (b:=b4) zM rfl) (.tmp rfl) zH ?_
  exact ⟨rfl,rfl⟩
 ·skip
  simp only [Option.getD_some,Option.isSome_some]
  refine za 3 rfl ?_
  refine qA (l:=hdC zHd) qO rfl rfl (fun b6=>?_)
  refine qp (l':=hdC g) rfl rfl qO rfl rfl (b:=b6) zM (by exact Nat.le_refl 2) rfl zU ?_
  refine za 10 rfl ?_
  refine qK (vs:=hdC g) rfl qO rfl (b:=b6) zM rfl rfl rfl ?_
  refine qp (l':=hdC g) rfl rfl qO rfl rfl (b:=b4) zM (by exact Nat.le_refl 2) rfl zU ?_
  refine za 2 rfl ?_
  refine zC (H2:=H) Tryz.results142 (.nil _) (.own (vs:=hdC g) rfl qO rfl (b:=b4) zM rfl) (.tmp rfl) zH ?_
  exact ⟨rfl,rfl⟩
theorem qdl {a:Nat × Blk} {X Y Z:qe}:∀ p∈a::(X++(Y++Z)),p∈a::(X++(Y++(Z++H))):=fun p hp=>by
 rcases List.mem_cons.1 hp with rfl | hp
 ·exact List.mem_cons_self
 ·refine List.mem_cons_of_mem _ ?_
  rcases List.mem_append.1 hp with hp | hp
  ·exact List.mem_append_left _ hp
  ·refine List.mem_append_right _ ?_
   rcases List.mem_append.1 hp with hp | hp
   ·exact List.mem_append_left _ hp
   ·exact List.mem_append_right _ (List.mem_append_left _ hp)
structure Xm where
 kind:Nat
 entries:Nat
 words:Nat
 closed:Bool
 L:List Slt
 C:List (Int × Hd)
 used:List Int
variable {x:Xm}
structure Xm.Ok (x:Xm):Prop where
 knd:x.kind≤2
 ent:1≤x.entries∧x.entries≤8
 wrd:1≤x.words∧x.words≤4
 len:x.L.length=2*x.entries
 are:QS x.L
 nd:(QX x.C).Nodup
 perm:x.used.Perm (QX x.C)
 le:x.C.length≤x.entries
 lk:∀ p∈x.C,∃ (i:Nat) (s:Slt),p.2.slot=(i:Int)∧x.L[i]?=some s∧s.st=1∧s.own=p.2∧s.cel.key=p.1
 rng:∀ k∈QX x.C,0≤k∧k<18446744073709551616
def Xm.use (x:Xm) (k:Int):Xm:={ x with used:=zN x.used k++[k] }
def Xm.link (x:Xm) (c:Cel):Xm × Hd:=match Zx x.L with
 | some i=>match x.L[i]? with
  | some s=>({ x with L:=x.L.set i { s with st:=1,cel:=c },C:=(c.key,s.own)::x.C,used:=zN x.used c.key++[c.key] },s.own)
  | none=>(x,zHd)
 | none=>(x,zHd)
def Xm.unlink (x:Xm) (k:Int):Xm × Hd:=({ x with C:=Zh x.C k,used:=zN x.used k },(Qz x.C k).getD zHd)
def Xm.find (x:Xm) (k:Int):Xm × Hd × Int:=match Qz x.C k with
 | some g=>(x.use k,g,0)
 | none=>(x,zHd,4)
def Xm.refE (x:Xm) (how:Int):Int:=if x.kind=0 then 2 else if how=2 then 4 else if x.kind=1∧x.C.length=x.entries then 3 else if XT 0 x.L=0 then 20 else 0
structure Putt where
 h:Hd
 gone:Hd
 out:Bool
deriving DecidableEq
def z7 (p:Putt):List Value:=[zi p.h.slot,zi p.h.gen,zi p.gone.slot,zi p.gone.gen,.bool p.out]
def Qq:Putt:=⟨zHd,zHd,false⟩
def Xm.put (x:Xm) (how k:Int) (ws:List Int):Xm × Putt × Int :=
 if (how<0∨2<how)∨x.words<ws.length then (x,Qq,1)
 else if x.closed=true then (x,Qq,22)
 else match Qz x.C k with
  | some g=>if how=1 then (x,Qq,5) else ({ x.use k with L:=Qa x.L g (fun s=>{ s with cel:=⟨k,W4.of ws⟩ }) },⟨g,zHd,false⟩,zA x.L g)
  | none=>if x.refE how≠0 then (x,Qq,x.refE how)
   else if x.C.length=x.entries then
    (((x.unlink (x.used.headD 0)).1.link ⟨k,W4.of ws⟩).1,⟨((x.unlink (x.used.headD 0)).1.link ⟨k,W4.of ws⟩).2,(x.unlink (x.used.headD 0)).2,true⟩,0)
   else ((x.link ⟨k,W4.of ws⟩).1,⟨(x.link ⟨k,W4.of ws⟩).2,zHd,false⟩,0)
def Xm.del (x:Xm) (k:Int):Xm × Hd × Int:=if x.kind=0 then (x,zHd,17) else match Qz x.C k with
 | some _=>((x.unlink k).1,(x.unlink k).2,0)
 | none=>(x,zHd,4)
def Xm.linked (x:Xm) (h:Hd):Bool:=decide (zA x.L h=0) && decide (Qz x.C (Zz x.L h).key=some h)
def Xm.free (x:Xm) (h:Hd):Xm × Int:=if zA x.L h≠0 then (x,zA x.L h) else if x.linked h=true then (x,21) else ({ x with L:=Qa x.L h JX },0)
def Xm.load (x:Xm) (h:Hd) (at_:Int):Int × Int:=if zA x.L h≠0 then (0,zA x.L h) else if at_<0∨(x.words:Int)≤at_ then (0,1) else ((Zz x.L h).w.get at_.toNat,0)
def Xm.store (x:Xm) (h:Hd) (at_ v:Int):Xm × Int:=if zA x.L h≠0 then (x,zA x.L h) else if at_<0∨(x.words:Int)≤at_ then (x,1) else ({ x with L:=Qa x.L h (fun s=>{ s with cel:=⟨s.cel.key,s.cel.w.put at_.toNat v⟩ }) },0)
def Xm.key (x:Xm) (h:Hd):Int × Int:=((Zz x.L h).key,zA x.L h)
theorem Ku (h:Qz C k=some g):k∈QX C:=List.mem_map.2 ⟨(k,g),qbf h,rfl⟩
theorem Xm.Ok.ulen (h:x.Ok):x.used.length=x.C.length:=by have:=h.perm.length_eq; simpa using this
theorem Xm.Ok.und (h:x.Ok):x.used.Nodup:=h.perm.nodup_iff.2 h.nd
theorem Xm.Ok.umem (h:x.Ok) :k∈x.used↔k∈QX x.C:=h.perm.mem_iff
theorem Xm.Ok.own (h:x.Ok) (hf:Qz x.C k=some g):∃ (i:Nat) (s:Slt),g.slot=(i:Int)∧x.L[i]?=some s∧s.st=1∧s.own=g∧s.cel.key=k:=h.lk (k,g) (qbf hf)
theorem Xm.Ok.err0 (h:x.Ok) (hf:Qz x.C k=some g):zA x.L g=0:=by
 obtain ⟨i,s,h1,h2,h3,h4,_⟩:=h.own hf
 exact qle h1 h2 h3 h4
theorem Xm.Ok.use (h:x.Ok) (hk:k∈x.used):(x.use k).Ok :=
 ⟨h.knd,h.ent,h.wrd,h.len,h.are,h.nd,((Jo h.und hk).symm.trans h.perm),h.le,h.lk,h.rng⟩
theorem Xm.Ok.unlink (h:x.Ok) (k:Int):(x.unlink k).1.Ok:=by
 refine ⟨h.knd,h.ent,h.wrd,h.len,h.are,qbs h.nd k,?_,Nat.le_trans (List.length_filter_le _ _) h.le,fun p hp=>h.lk p (List.mem_filter.1 hp).1,fun k2 hk2=>?_⟩
 ·show (zN x.used k).Perm (QX (Zh x.C k))
  rw [qba]
  exact h.perm.filter _
 ·obtain ⟨p,hp,rfl⟩:=List.mem_map.1 hk2
  exact h.rng p.1 (List.mem_map.2 ⟨p,(List.mem_filter.1 hp).1,rfl⟩)
theorem qhs {t:Slt} (hl:∀ p∈C,∃ (i:Nat) (s:Slt),p.2.slot=(i:Int)∧L[i]?=some s∧s.st=1∧s.own=p.2∧s.cel.key=p.1) (ht:∀ s,L[i]?=some s→s.st=1→t.st=1∧t.own=s.own∧t.cel.key=s.cel.key) :
  ∀ p∈C,∃ (j:Nat) (s:Slt),p.2.slot=(j:Int)∧(L.set i t)[j]?=some s∧s.st=1∧s.own=p.2∧s.cel.key=p.1:=fun p hp=>by
 obtain ⟨j,s,h1,h2,h3,h4,h5⟩:=hl p hp
 by_cases e:i=j
 ·subst e
  obtain ⟨a1,a2,a3⟩:=ht s h2 h3
  exact ⟨i,t,h1,List.getElem?_set_self (List.getElem?_eq_some_iff.1 h2).1,a1,a2.trans h4,a3.trans h5⟩
 ·exact ⟨j,s,h1,by rw [List.getElem?_set_ne e]; exact h2,h3,h4,h5⟩
theorem Xm.link_is (hf:Zx x.L=some i) (hs:x.L[i]?=some s):x.link c=({ x with L:=x.L.set i { s with st:=1,cel:=c },C:=(c.key,s.own)::x.C,used:=zN x.used c.key++[c.key] },s.own):=by
 unfold Xm.link; rw [hf]; dsimp only; rw [hs]
theorem Xm.Ok.link (h:x.Ok) (hf:Zx x.L=some i) (hs:x.L[i]?=some s) (hk:c.key ∉ QX x.C) (hr:x.C.length<x.entries) (hc:0≤c.key∧c.key<18446744073709551616):(x.link c).1.Ok:=by
 rw [Xm.link_is hf hs]
 obtain ⟨s',hs',h0,-⟩:=Jm hf
 obtain rfl:s=s':=Option.some.inj (hs.symm.trans hs')
 have hi:=(List.getElem?_eq_some_iff.1 hs).1
 refine ⟨h.knd,h.ent,h.wrd,by show (x.L.set i _).length=_; rw [List.length_set]; exact h.len,h.are.set (h.are.own i s hs),List.nodup_cons.2 ⟨hk,h.nd⟩,?_,by show x.C.length+1≤x.entries; omega,fun p hp=>?_,fun k hk2=>?_⟩
 ·show (zN x.used c.key++[c.key]).Perm (c.key::QX x.C)
  rw [J2 (fun hm=>hk (h.umem.1 hm))]
  exact (List.perm_append_singleton _ _).trans (h.perm.cons _)
 ·rcases List.mem_cons.1 hp with rfl | hp
  ·exact ⟨i,_,(h.are.own i s hs).1,List.getElem?_set_self hi,rfl,rfl,rfl⟩
  ·exact qhs h.lk (fun t ht h1=>by
    obtain rfl:s=t:=Option.some.inj (hs.symm.trans ht)
    omega) p hp
 ·rcases List.mem_cons.1 hk2 with rfl | hk2
  ·exact hc
  ·exact h.rng k hk2
theorem Xm.Ok.cel (h:x.Ok) (g:Hd) (f:Cel→Cel) (hf:∀ c,zA x.L g=0→c=Zz x.L g→(f c).key=c.key):(Xm.mk x.kind x.entries x.words x.closed (Qa x.L g (fun s=>{ s with cel:=f s.cel })) x.C x.used).Ok:=by
 by_cases he:zA x.L g=0
 ·obtain ⟨i,s,h1,h2,h3,h4,h5,h6⟩:=JN he
  rw [h6]
  refine ⟨h.knd,h.ent,h.wrd,by show (x.L.set i _).length=_; rw [List.length_set]; exact h.len,h.are.set (h.are.own i s h2),h.nd,h.perm,h.le,qhs h.lk (fun t ht hu=>?_),h.rng⟩
  obtain rfl:s=t:=Option.some.inj (h2.symm.trans ht)
  exact ⟨h3,rfl,hf _ he h5.symm⟩
 ·rw [(YR he).2]; exact h
theorem Xm.Ok.free (h:x.Ok) (g:Hd):(x.free g).1.Ok:=by
 unfold Xm.free
 by_cases he:zA x.L g≠0
 ·rw [if_pos he]; exact h
 ·rw [if_neg he]
  by_cases hl:x.linked g=true
  ·rw [if_pos hl]; exact h
  ·rw [if_neg hl]
   have he:zA x.L g=0:=Classical.not_not.1 he
   obtain ⟨i,s,h1,h2,h3,h4,h5,h6⟩:=JN he
   show (Xm.mk x.kind x.entries x.words x.closed (Qa x.L g JX) x.C x.used).Ok
   rw [h6]
   refine ⟨h.knd,h.ent,h.wrd,by show (x.L.set i _).length=_; rw [List.length_set]; exact h.len,h.are.rel h2,h.nd,h.perm,h.le,fun p hp=>?_,h.rng⟩
   obtain ⟨j,t,b1,b2,b3,b4,b5⟩:=h.lk p hp
   by_cases e:i=j
   ·exfalso
    subst e
    obtain rfl:s=t:=Option.some.inj (h2.symm.trans b2)
    apply hl
    unfold Xm.linked
    rw [decide_eq_true he,Bool.true_and,h5,b5]
    have:(p.1,g)∈x.C:=by
     have e:p.2=g:=b4.symm.trans h4
     rw [← e]; exact hp
    exact decide_eq_true (qe3 h.nd this)
   ·exact ⟨j,t,b1,by show (x.L.set i _)[j]?=_; rw [List.getElem?_set_ne e]; exact b2,b3,b4,b5⟩
theorem qlN (hB:QR tb entries C HT) (hO:ZP bo entries T used HO) (hTl:T≤1000000) (hum:k∈QX C→k∈used) :qk Tryz.prog w0 64 #[zp mb,.int .u64 k] ((mb,.cells 217 7 [.int .i64 (kind:Int),.int .i64 (entries:Int),.int .i64 (words:Int),zp ab,zp tb,zp bo,.bool closed])::(HA++(HT++(HO++H)))) (fun v H'=>∃ HO',ZP bo entries (T+1) (match Qz C k with | some _=>zN used k++[k] | none=>used) HO'∧v=.tuple #[.agg (List.toArray (hdC ((Qz C k).getD zHd))),.int .i64 (if (Qz C k).isSome then 0 else 4)]∧H'=(mb,.cells 217 7 [.int .i64 (kind:Int),.int .i64 (entries:Int),.int .i64 (words:Int),zp ab,zp tb,zp bo,.bool closed])::(HA++(HT++(HO'++H)))):=by
 refine qd (l:=[zp mb,zu k]) Tryz.func64 rfl Tryz.ntmps64 rfl rfl ?_
 refine zo ?_
 refine qA (l:=hdC zHd) qO rfl rfl (fun b4=>?_)
 refine za 5 rfl ?_
 refine qB (zc2 rfl rfl) Tryz.call142 rfl (qcQ hB (k:=k) (HA:=HA) (HO:=HO) (closed:=closed) (kind:=kind) (words:=words) (fun p hp=>by repeat (first | exact qdl p hp | apply List.mem_cons_of_mem))) ?_
 rcases hf:Qz C k with _ | g
 ·skip
  simp only [Option.getD_none,Option.isSome_none,Bool.false_eq_true,if_false]
  refine za 3 rfl ?_
  refine qA (l:=hdC zHd) qO rfl rfl (fun b6=>?_)
  refine qp (l':=hdC zHd) rfl rfl qO rfl rfl (b:=b6) zM (by exact Nat.le_refl 2) rfl zU ?_
  refine za 10 rfl ?_
  refine qK (vs:=hdC zHd) rfl qO rfl (b:=b6) zM rfl rfl rfl ?_
  refine qH rfl rfl ?_
  refine qp (l':=hdC zHd) rfl rfl qO rfl rfl (b:=b4) zM (by exact Nat.le_refl 2) rfl zU ?_
  refine za 2 rfl ?_
  refine zC (H2:=(mb,.cells 217 7 [zi (kind:Int),zi (entries:Int),zi (words:Int),zp ab,zp tb,zp bo,.bool closed])::(HA++(HT++(HO++H)))) Tryz.results64 (.nil _) (.own (vs:=hdC zHd) rfl qO rfl (b:=b4) zM rfl) (.tmp rfl) zH ?_
  exact ⟨HO,hO.up (Nat.le_succ _),rfl,rfl⟩
 ·skip
  simp only [Option.getD_some,Option.isSome_some,if_true]
  refine za 3 rfl ?_
  refine qA (l:=hdC zHd) qO rfl rfl (fun b6=>?_)
  refine qp (l':=hdC g) rfl rfl qO rfl rfl (b:=b6) zM (by exact Nat.le_refl 2) rfl zU ?_
  refine za 12 rfl ?_
  refine qf (v:=zp bo) rfl Yf rfl (qh.own (b:=mb) zM rfl) rfl ?_
  refine qH rfl rfl ?_
  refine qv (l:=[zu k]) Zq zX (.cons rfl rfl rfl rfl rfl .nil) rfl rfl rfl rfl rfl rfl rfl (fun b21=>?_)
  refine qn (zc2 rfl rfl) Tryz.call143 rfl ((hO.touch hTl (k:=k) (cap:=1) (.inl (hum (Ku hf))) (Holds.own (b:=b21) zM) (H:=(b21,.cells 30 (1*1) [zu k])::(b6,.cells 40 2 (hdC g))::(b4,.cells 40 2 (hdC zHd))::(mb,.cells 217 7 [zi (kind:Int),zi (entries:Int),zi (words:Int),zp ab,zp tb,zp bo,.bool closed])::(HA++(HT++H)))).hsub zH) ?_
  rintro v H' ⟨HO2,hO2,rfl,rfl⟩
  refine za 2 rfl ?_
  refine qK (vs:=hdC g) rfl qO rfl (b:=b6) zM rfl rfl rfl ?_
  refine qH rfl rfl ?_
  refine qp (l':=hdC g) rfl rfl qO rfl rfl (b:=b4) zM (by exact Nat.le_refl 2) rfl zU ?_
  refine za 2 rfl ?_
  refine zC (H2:=(mb,.cells 217 7 [zi (kind:Int),zi (entries:Int),zi (words:Int),zp ab,zp tb,zp bo,.bool closed])::(HA++(HT++(HO2++H)))) Tryz.results64 (.nil _) (.own (vs:=hdC g) rfl qO rfl (b:=b4) zM rfl) (.tmp rfl) zH ?_
  exact ⟨HO2,hO2,rfl,rfl⟩
theorem qhO (hB:QR tb entries C HT) (hm:∀ p∈((mb,.cells 217 7 [zi (kind:Int),zi (entries:Int),zi (words:Int),zp ab,zp tb,zp bo,.bool closed])::(HA++(HT++HO))),p∈H) :qG Tryz.prog w0 H 146 [zp mb] (.bool (decide (C.length=entries))):=by
 refine qd Tryz.func146 rfl Tryz.ntmps146 rfl rfl (za 4 rfl ?_)
 refine zy H zk ?_
 refine zw [0,1,2] rfl rfl ?_
 refine qm 3 rfl zK zK zK rfl rfl (ql (v:=zp tb) rfl Yg rfl (qh.own (b:=mb) (by repeat (first | exact hm _ List.mem_cons_self | apply List.mem_cons_of_mem)) rfl)) rfl ?_
 refine zw [5,6,7] rfl rfl ?_
 refine qm 8 rfl zK zK zK rfl rfl (ql (v:=zi (entries:Int)) rfl ty3 rfl (qh.own (b:=mb) (by repeat (first | exact hm _ List.mem_cons_self | apply List.mem_cons_of_mem)) rfl)) rfl ?_
 refine qJ 4 zH zK rfl rfl ?_
 refine qB (zc1 rfl) Tryz.call126 rfl (hB.lenq (fun p hp=>by repeat (first | exact hm p (List.mem_cons_of_mem _ (List.mem_append_right _ (List.mem_append_left _ hp))) | apply List.mem_cons_of_mem))) ?_
 refine qs (WC_goal (zw [9] rfl rfl ?_))
 rw [show decide ((C.length:Int)=(entries:Int))=decide (C.length=entries) from decide_eq_decide.2 (by omega)]
 refine zw [10] rfl rfl (WC_done zH zK ?_)
 refine qj (H2:=H) Tryz.results146 rfl (.nil _) zH ?_
 exact ⟨rfl,rfl⟩
theorem qg7 (hA:QZ ab L HA) (hB:QR tb entries C HT) (hm:∀ p∈((mb,.cells 217 7 [zi (kind:Int),zi (entries:Int),zi (words:Int),zp ab,zp tb,zp bo,.bool closed])::(HA++(HT++HO))),p∈H) :qG Tryz.prog w0 H 145 [zp mb,zi how] (zi (Xm.refE (⟨kind,entries,words,closed,L,C,used⟩:Xm) how)):=by
 refine qd Tryz.func145 rfl Tryz.ntmps145 rfl rfl (za 9 rfl ?_)
 refine qf (v:=zi (kind:Int)) rfl ty3 rfl (qh.own (b:=mb) (by repeat (first | exact hm _ List.mem_cons_self | apply List.mem_cons_of_mem)) rfl) rfl ?_
 refine za 3 rfl ?_
 refine qq (p:=kind=0) rfl (by simp) (fun c0=>?_) (fun c0=>?_)
 ·skip
  refine za 3 rfl ?_
  refine qj (H2:=H) Tryz.results145 rfl (.nil _) zH ?_
  exact ⟨by unfold Xm.refE; dsimp only; rw [if_pos c0],rfl⟩
 ·skip
  refine za 5 rfl ?_
  refine qq (p:=how=2) rfl (by simp) (fun c1=>?_) (fun c1=>?_)
  ·skip
   refine za 3 rfl ?_
   refine qj (H2:=H) Tryz.results145 rfl (.nil _) zH ?_
   exact ⟨by unfold Xm.refE; dsimp only; rw [if_neg c0,if_pos c1],rfl⟩
  ·skip
   refine za 4 rfl ?_
   refine qf (v:=zi (kind:Int)) rfl ty3 rfl (qh.own (b:=mb) (by repeat (first | exact hm _ List.mem_cons_self | apply List.mem_cons_of_mem)) rfl) rfl ?_
   refine za 2 rfl ?_
   apply qb5
   iterate 4 exact rfl
   case h1 =>
    intro hg5
    refine za 3 rfl ?_
    refine qB (zc1 rfl) Tryz.call146 rfl (qhO hB (HA:=HA) (HO:=HO) (closed:=closed) (kind:=kind) (words:=words) hm) ?_
    exact Zv rfl zR
   refine za 2 rfl ?_
   refine qq (p:=kind=1∧C.length=entries) rfl (by simp; omega) (fun c2=>?_) (fun c2=>?_)
   ·skip
    refine za 3 rfl ?_
    refine qj (H2:=H) Tryz.results145 rfl (.nil _) zH ?_
    exact ⟨by unfold Xm.refE; dsimp only; rw [if_neg c0,if_neg c1,if_pos c2],rfl⟩
   ·skip
    refine za 4 rfl ?_
    refine qf (v:=zp ab) rfl Z6 rfl (qh.own (b:=mb) (by repeat (first | exact hm _ List.mem_cons_self | apply List.mem_cons_of_mem)) rfl) rfl ?_
    refine qB (zc1 rfl) Tryz.call237 rfl (hA.roomq (fun p hp=>by repeat (first | exact hm p (List.mem_cons_of_mem _ (List.mem_append_left _ hp)) | apply List.mem_cons_of_mem))) ?_
    refine za 3 rfl ?_
    refine qq (p:=XT 0 L=0) rfl (by simp) (fun c3=>?_) (fun c3=>?_)
    ·skip
     refine za 3 rfl ?_
     refine qj (H2:=H) Tryz.results145 rfl (.nil _) zH ?_
     exact ⟨by unfold Xm.refE; dsimp only; rw [if_neg c0,if_neg c1,if_neg c2,if_pos c3],rfl⟩
    ·skip
     refine za 5 rfl ?_
     refine qj (H2:=H) Tryz.results145 rfl (.nil _) zH ?_
     exact ⟨by unfold Xm.refE; dsimp only; rw [if_neg c0,if_neg c1,if_neg c2,if_neg c3],rfl⟩
theorem qnt (hB:QR tb entries C HT) (hO:ZP bo entries T used HO) :qk Tryz.prog w0 68 #[zp mb,zu k] ((mb,.cells 217 7 [zi (kind:Int),zi (entries:Int),zi (words:Int),zp ab,zp tb,zp bo,.bool closed])::(HA++(HT++(HO++H)))) (fun v H'=>∃ HT' HO',QR tb entries (Xm.del (⟨kind,entries,words,closed,L,C,used⟩:Xm) k).1.C HT'∧ZP bo entries T (Xm.del (⟨kind,entries,words,closed,L,C,used⟩:Xm) k).1.used HO'∧v=.tuple #[.agg (List.toArray (hdC (Xm.del (⟨kind,entries,words,closed,L,C,used⟩:Xm) k).2.1)),zi (Xm.del (⟨kind,entries,words,closed,L,C,used⟩:Xm) k).2.2]∧H'=(mb,.cells 217 7 [zi (kind:Int),zi (entries:Int),zi (words:Int),zp ab,zp tb,zp bo,.bool closed])::(HA++(HT'++(HO'++H)))):=by
 refine qd (l:=[zp mb,zu k]) Tryz.func68 rfl Tryz.ntmps68 rfl rfl ?_
 refine zo ?_
 refine qA (l:=hdC zHd) qO rfl rfl (fun b4=>?_)
 refine za 5 rfl ?_
 refine W_x (QD rfl rfl Ya) (fun _ h=>by cases h) rfl ?_
 refine qH rfl rfl ?_
 apply qb5
 iterate 4 exact rfl
 case h1 =>
  intro hg2
  refine za 7 rfl ?_
  refine qf (v:=zi (kind:Int)) rfl ty3 rfl (qh.own (b:=mb) zM rfl) rfl ?_
  refine za 2 rfl ?_
  exact Zv rfl zR
 refine qs ?_
 refine qq (p:=kind=0) rfl (by simp) (fun c0=>?_) (fun c0=>?_)
 ·skip
  refine zo ?_
  refine zb (l:=hdC zHd) qO qhh .nil rfl rfl rfl ?_
  refine qp (l':=hdC zHd) rfl rfl qO rfl rfl (b:=b4) zM (by exact Nat.le_refl 2) rfl zU ?_
  refine za 2 rfl ?_
  refine zC (H2:=(mb,.cells 217 7 [zi (kind:Int),zi (entries:Int),zi (words:Int),zp ab,zp tb,zp bo,.bool closed])::(HA++(HT++(HO++H)))) Tryz.results68 (.nil _) (.own (vs:=hdC zHd) rfl qO rfl (b:=b4) zM rfl) (.tmp rfl) zH ?_
  have e:Xm.del (⟨kind,entries,words,closed,L,C,used⟩:Xm) k=((⟨kind,entries,words,closed,L,C,used⟩:Xm),zHd,17):=by unfold Xm.del; rw [if_pos c0]
  rw [e]
  exact ⟨HT,HO,hB,hO,rfl,rfl⟩
 ·skip
  refine za 5 rfl ?_
  refine qB (zc2 rfl rfl) Tryz.call142 rfl (qcQ hB (k:=k) (HA:=HA) (HO:=HO) (closed:=closed) (kind:=kind) (words:=words) (fun p hp=>by repeat (first | exact qdl p hp | apply List.mem_cons_of_mem))) ?_
  rcases hf:Qz C k with _ | g
  ·skip
   simp only [Option.getD_none,Option.isSome_none,Bool.false_eq_true,if_false]
   refine za 3 rfl ?_
   refine qA (l:=hdC zHd) qO rfl rfl (fun b6=>?_)
   refine qp (l':=hdC zHd) rfl rfl qO rfl rfl (b:=b6) zM (by exact Nat.le_refl 2) rfl zU ?_
   refine za 8 rfl ?_
   refine zb (l:=hdC zHd) qO qhh .nil rfl rfl rfl ?_
   refine qH rfl rfl ?_
   refine qp (l':=hdC zHd) rfl rfl qO rfl rfl (b:=b4) zM (by exact Nat.le_refl 2) rfl zU ?_
   refine za 2 rfl ?_
   refine zC (H2:=(mb,.cells 217 7 [zi (kind:Int),zi (entries:Int),zi (words:Int),zp ab,zp tb,zp bo,.bool closed])::(HA++(HT++(HO++H)))) Tryz.results68 (.nil _) (.own (vs:=hdC zHd) rfl qO rfl (b:=b4) zM rfl) (.tmp rfl) zH ?_
   have e:Xm.del (⟨kind,entries,words,closed,L,C,used⟩:Xm) k=((⟨kind,entries,words,closed,L,C,used⟩:Xm),zHd,4):=by unfold Xm.del; rw [if_neg c0]; dsimp only; rw [hf]
   rw [e]
   exact ⟨HT,HO,hB,hO,rfl,rfl⟩
  ·skip
   simp only [Option.getD_some,Option.isSome_some,if_true]
   refine za 3 rfl ?_
   refine qA (l:=hdC zHd) qO rfl rfl (fun b6=>?_)
   refine qp (l':=hdC g) rfl rfl qO rfl rfl (b:=b6) zM (by exact Nat.le_refl 2) rfl zU ?_
   refine za 11 rfl ?_
   refine qn (zc2 rfl rfl) Tryz.call148 rfl ((qbI (closed:=closed) (kind:=kind) (words:=words) (HA:=HA) hB hO (k:=k) (H:=(b6,.cells 40 2 (hdC g))::(b4,.cells 40 2 (hdC zHd))::H)).hsub zH) ?_
   rintro v H' ⟨HT2,HO2,hB2,hO2,rfl,rfl⟩
   rw [hf,Option.getD_some]
   refine qp (l':=hdC g) rfl rfl qO rfl rfl (b:=b4) zM (by exact Nat.le_refl 2) rfl zU ?_
   refine za 2 rfl ?_
   refine zC (H2:=(mb,.cells 217 7 [zi (kind:Int),zi (entries:Int),zi (words:Int),zp ab,zp tb,zp bo,.bool closed])::(HA++(HT2++(HO2++H)))) Tryz.results68 (.nil _) (.own (vs:=hdC g) rfl qO rfl (b:=b4) zM rfl) (.tmp rfl) zH ?_
   have e:Xm.del (⟨kind,entries,words,closed,L,C,used⟩:Xm) k=((Xm.unlink (⟨kind,entries,words,closed,L,C,used⟩:Xm) k).1,g,0):=by unfold Xm.del; rw [if_neg c0]; dsimp only; rw [hf]; show (_,(Qz C k).getD zHd,_)=_; rw [hf]; rfl
   rw [e]
   exact ⟨HT2,HO2,hB2,hO2,rfl,rfl⟩
theorem Xm.free_slot (h:x.refE how=0):∃ i s,Zx x.L=some i∧x.L[i]?=some s:=by
 have hc:XT 0 x.L≠0:=fun e=>by
  unfold Xm.refE at h
  rw [if_pos e] at h
  repeat' split at h
  all_goals cases h
 obtain ⟨t,ht,h0⟩:=qjm.1 hc
 cases hf:Zx x.L with
 | none=>exact absurd h0 (qap.1 hf t ht)
 | some i =>
  obtain ⟨s,hs,-,-⟩:=Jm hf
  exact ⟨i,s,rfl,hs⟩
theorem qlK (hA:QZ ab L HA) (hB:QR tb entries C HT) (hO:ZP bo entries T used HO) (hTl:T≤1000000) (hx:(⟨kind,entries,words,closed,L,C,used⟩:Xm).Ok) {ws:List Int} (hrow:Holds w0 H ad (ws.map (Value.int .u64))) (hTab:Tab w0):qk Tryz.prog w0 61 #[zp mb,zi how,zu k,.slice ad ws.length cap] ((mb,.cells 217 7 [zi (kind:Int),zi (entries:Int),zi (words:Int),zp ab,zp tb,zp bo,.bool closed])::(HA++(HT++(HO++H)))) (fun v H'=>∃ HA' HT' HO',QZ ab (Xm.put (⟨kind,entries,words,closed,L,C,used⟩:Xm) how k ws).1.L HA'∧QR tb entries (Xm.put (⟨kind,entries,words,closed,L,C,used⟩:Xm) how k ws).1.C HT'∧ZP bo entries (T+2) (Xm.put (⟨kind,entries,words,closed,L,C,used⟩:Xm) how k ws).1.used HO'∧v=.tuple #[.agg (List.toArray (z7 (Xm.put (⟨kind,entries,words,closed,L,C,used⟩:Xm) how k ws).2.1)),zi (Xm.put (⟨kind,entries,words,closed,L,C,used⟩:Xm) how k ws).2.2]∧H'=(mb,.cells 217 7 [zi (kind:Int),zi (entries:Int),zi (words:Int),zp ab,zp tb,zp bo,.bool closed])::(HA'++(HT'++(HO'++H)))):=by
 refine qd (l:=[zp mb,zi how,zu k,.slice ad ws.length cap]) Tryz.func61 rfl Tryz.ntmps61 rfl rfl ?_
 refine zo ?_
 refine qA (l:=z7 Qq) Q4 rfl rfl (fun b8=>?_)
 refine za 6 rfl ?_
 refine W_x (qE rfl rfl Ya) (fun _ h=>by cases h) rfl ?_
 refine za 7 rfl ?_
 apply XH
 iterate 4 exact rfl
 case h1 =>
  intro hg2
  refine za 4 rfl ?_
  exact Zv rfl zR
 refine qH rfl rfl ?_
 apply XH
 iterate 4 exact rfl
 case h1 =>
  intro hg6
  refine za 3 rfl (zY rfl Zq rfl rfl (za 7 rfl ?_))
  refine qf (v:=zi (words:Int)) rfl ty3 rfl (qh.own (b:=mb) zM rfl) rfl ?_
  refine za 2 rfl ?_
  exact Zv rfl zR
 refine za 2 rfl ?_
 refine qq (p:=(how<0∨2<how)∨(words:Int)<(ws.length:Int)) rfl (by simp) (fun c0=>?_) (fun c0=>?_)
 ·skip
  refine zo ?_
  refine zb (l:=z7 Qq) Q4 qdg .nil rfl rfl rfl ?_
  refine qp (l':=z7 Qq) rfl rfl Q4 rfl rfl (b:=b8) zM (by exact Nat.le_refl 5) rfl zU ?_
  refine za 2 rfl ?_
  refine zC (H2:=(mb,.cells 217 7 [zi (kind:Int),zi (entries:Int),zi (words:Int),zp ab,zp tb,zp bo,.bool closed])::(HA++(HT++(HO++H)))) Tryz.results61 (.nil _) (.own (vs:=z7 Qq) rfl Q4 rfl (b:=b8) zM rfl) (.tmp rfl) zH ?_
  have e:(Xm.put (⟨kind,entries,words,closed,L,C,used⟩:Xm) how k ws)=((⟨kind,entries,words,closed,L,C,used⟩:Xm),Qq,1):=by
   unfold Xm.put
   rw [if_pos (by dsimp only; omega)]
  rw [e]
  exact ⟨HA,HT,HO,hA,hB,hO.up zO,rfl,rfl⟩
 ·skip
  refine za 4 rfl ?_
  refine qf (v:=.bool closed) rfl ty4 rfl (qh.own (b:=mb) zM rfl) rfl ?_
  refine za 2 rfl ?_
  refine qq (p:=closed=true) rfl (by simp) (fun c1=>?_) (fun c1=>?_)
  ·skip
   refine zo ?_
   refine zb (l:=z7 Qq) Q4 qdg .nil rfl rfl rfl ?_
   refine qp (l':=z7 Qq) rfl rfl Q4 rfl rfl (b:=b8) zM (by exact Nat.le_refl 5) rfl zU ?_
   refine za 2 rfl ?_
   refine zC (H2:=(mb,.cells 217 7 [zi (kind:Int),zi (entries:Int),zi (words:Int),zp ab,zp tb,zp bo,.bool closed])::(HA++(HT++(HO++H)))) Tryz.results61 (.nil _) (.own (vs:=z7 Qq) rfl Q4 rfl (b:=b8) zM rfl) (.tmp rfl) zH ?_
   have e:(Xm.put (⟨kind,entries,words,closed,L,C,used⟩:Xm) how k ws)=((⟨kind,entries,words,closed,L,C,used⟩:Xm),Qq,22):=by
    unfold Xm.put
    rw [if_neg (by dsimp only; omega)]
    rw [if_pos c1]
   rw [e]
   exact ⟨HA,HT,HO,hA,hB,hO.up zO,rfl,rfl⟩
  ·skip
   refine za 4 rfl ?_
   refine zb (l:=zQ ⟨k,zW⟩) Ql ql5 (.cons rfl rfl rfl rfl rfl .nil) rfl rfl rfl ?_
   refine qA (l:=zQ Zi) Ql rfl rfl (fun b10=>?_)
   refine qp (l':=zQ (⟨k,zW⟩)) rfl rfl Ql rfl rfl (b:=b10) zM (by exact Nat.le_refl 5) rfl zU ?_
   refine za 2 rfl ?_
   have hw4:ws.length≤4:=by have:=hx.wrd; dsimp only at this; omega
   refine za 1 rfl ?_
   refine W_x (qbz (l:=0) (hh:=4) rfl qlU zX rfl rfl zd zd zd) (fun _ h=>by cases h) rfl ?_
   refine qH rfl rfl ?_
   refine qm9 (kk:=ws.length) (news:=ws.map (Value.int .u64)) (l':=zQ ⟨k,W4.of ws⟩) rfl rfl Zq zX (by omega) (by rw [List.length_map,Nat.mul_one]) (hrow.up zH) (by simp [Value.oneCell']) (b:=b10) zM (by rw [List.length_map]; show 0+1+0*1+ws.length≤5; omega) (W4.copy hw4 (zu k)) zU rfl ?_
   refine za 5 rfl ?_
   refine qB (zc2 rfl rfl) Tryz.call142 rfl (qcQ hB (k:=k) (HA:=HA) (HO:=HO) (closed:=closed) (kind:=kind) (words:=words) (fun p hp=>by repeat (first | exact qdl p hp | apply List.mem_cons_of_mem))) ?_
   rcases hf:Qz C k with _ | g
   ·skip
    simp only [Option.getD_none,Option.isSome_none,Bool.false_eq_true,if_false]
    refine za 3 rfl ?_
    refine qA (l:=hdC zHd) qO rfl rfl (fun b11=>?_)
    refine qp (l':=hdC zHd) rfl rfl qO rfl rfl (b:=b11) zM (by exact Nat.le_refl 2) rfl zU ?_
    refine za 12 rfl ?_
    refine qB (zc2 rfl rfl) Tryz.call145 rfl (qg7 hA hB (how:=how) (HO:=HO) (used:=used) (closed:=closed) (words:=words) (fun p hp=>by repeat (first | exact qdl p hp | apply List.mem_cons_of_mem))) ?_
    refine za 6 rfl ?_
    refine qq (p:=¬ (Xm.refE (⟨kind,entries,words,closed,L,C,used⟩:Xm) how)=0) rfl (by simp) (fun c2=>?_) (fun c2=>?_)
    ·skip
     refine zo ?_
     refine zb (l:=z7 Qq) Q4 qdg .nil rfl rfl rfl ?_
     refine qH rfl rfl ?_
     refine qp (l':=z7 Qq) rfl rfl Q4 rfl rfl (b:=b8) zM (by exact Nat.le_refl 5) rfl zU ?_
     refine za 2 rfl ?_
     refine zC (H2:=(mb,.cells 217 7 [zi (kind:Int),zi (entries:Int),zi (words:Int),zp ab,zp tb,zp bo,.bool closed])::(HA++(HT++(HO++H)))) Tryz.results61 (.nil _) (.own (vs:=z7 Qq) rfl Q4 rfl (b:=b8) zM rfl) (.tmp rfl) zH ?_
     have e:(Xm.put (⟨kind,entries,words,closed,L,C,used⟩:Xm) how k ws)=((⟨kind,entries,words,closed,L,C,used⟩:Xm),Qq,Xm.refE (⟨kind,entries,words,closed,L,C,used⟩:Xm) how):=by
      unfold Xm.put
      rw [if_neg (by dsimp only; omega)]
      rw [if_neg c1]
      dsimp only
      rw [hf]
      dsimp only
      rw [if_pos c2]
     rw [e]
     exact ⟨HA,HT,HO,hA,hB,hO.up zO,rfl,rfl⟩
    ·skip
     refine za 2 rfl ?_
     refine qA (l:=z7 Qq) Q4 rfl rfl (fun b14=>?_)
     refine za 4 rfl ?_
     refine qB (zc1 rfl) Tryz.call146 rfl (qhO hB (HA:=HA) (HO:=HO) (closed:=closed) (kind:=kind) (words:=words) (fun p hp=>by repeat (first | exact qdl p hp | apply List.mem_cons_of_mem))) ?_
     refine qs ?_
     refine qq (p:=C.length=entries) rfl (by simp) (fun c3=>?_) (fun c3=>?_)
     ·skip
      refine za 4 rfl ?_
      refine qf (v:=zp bo) rfl Yf rfl (qh.own (b:=mb) zM rfl) rfl ?_
      obtain ⟨o,ho⟩:∃ o,used[0]?=some o:=⟨_,List.getElem?_eq_getElem (by have:=hx.ulen; have:=hx.ent; dsimp only at *; omega)⟩
      have hom:o∈QX C:=hx.umem.1 (List.mem_of_getElem? ho)
      refine qn (zc1 rfl) Tryz.call147 rfl ((hO.oldest (by have:=hx.ent; dsimp only at *; omega) (H:=(b14,.cells 139 5 (z7 Qq))::(b11,.cells 40 2 (hdC zHd))::(b10,.cells 220 5 (zQ ⟨k,W4.of ws⟩))::(b8,.cells 139 5 (z7 Qq))::(mb,.cells 217 7 [zi (kind:Int),zi (entries:Int),zi (words:Int),zp ab,zp tb,zp bo,.bool closed])::(HA++(HT++H)))).hsub zH) ?_
      rintro v H' ⟨rfl,rfl⟩
      rw [show qfW used=zu o from by unfold qfW; rw [ho]]
      refine za 9 rfl ?_
      refine qn (zc2 rfl rfl) Tryz.call148 rfl ((qbI (closed:=closed) (kind:=kind) (words:=words) (HA:=HA) hB hO (k:=o) (H:=(b14,.cells 139 5 (z7 Qq))::(b11,.cells 40 2 (hdC zHd))::(b10,.cells 220 5 (zQ ⟨k,W4.of ws⟩))::(b8,.cells 139 5 (z7 Qq))::H)).hsub zH) ?_
      rintro v H' ⟨HT2,HO2,hB2,hO2,rfl,rfl⟩
      obtain ⟨g0,hg0⟩:∃ g0,g0=(Qz C o).getD zHd:=⟨_,rfl⟩
      rw [← hg0]
      refine za 1 rfl ?_
      refine qp (l':=z7 ⟨zHd,g0,false⟩) rfl rfl qO rfl rfl (b:=b14) zM (by show 2+2≤5; decide) rfl zU ?_
      refine za 1 rfl ?_
      refine qy (l':=z7 ⟨zHd,g0,true⟩) rfl rfl ty4 rfl rfl (b:=b14) zM rfl rfl zU ?_
      refine za 3 rfl ?_
      refine qK (vs:=zQ ⟨k,W4.of ws⟩) rfl Ql rfl (b:=b10) zM rfl rfl rfl ?_
      obtain ⟨i,s,hfi,hs⟩:=Xm.free_slot (x:=(⟨kind,entries,words,closed,L,C,used⟩:Xm)) (how:=how) (Classical.not_not.1 c2)
      dsimp only at hfi hs
      have hkn:=Xw.1 hf
      have hdl:=KD hB.nd.1 hom
      have hul:=hx.ulen
      have hule:(zN used o).length+1=used.length:=by have:=(Jo hx.und (List.mem_of_getElem? ho)).length_eq; rw [List.length_append] at this; exact this.symm
      dsimp only at hul
      refine qn (zc2 rfl rfl) Tryz.call149 rfl ((qcp (closed:=closed) (kind:=kind) (words:=words) hA hB2 hO2 (by omega) (by have:=hx.ent; dsimp only at this; omega) (c:=⟨k,W4.of ws⟩) hfi hs (by rw [qba]; exact fun hm=>hkn (List.mem_filter.1 hm).1) (by omega) (by omega) hTab (H:=(b14,.cells 139 5 (z7 ⟨zHd,g0,true⟩))::(b11,.cells 40 2 (hdC zHd))::(b10,.cells 220 5 (zQ ⟨k,W4.of ws⟩))::(b8,.cells 139 5 (z7 Qq))::H)).hsub zH) ?_
      rintro v H' ⟨HA3,HT3,HO3,hA3,hB3,hO3,rfl,rfl⟩
      refine za 3 rfl ?_
      refine qA (l:=hdC zHd) qO rfl rfl (fun b17=>?_)
      refine qp (l':=hdC s.own) rfl rfl qO rfl rfl (b:=b17) zM (by exact Nat.le_refl 2) rfl zU ?_
      refine za 3 rfl ?_
      refine qK (vs:=hdC s.own) rfl qO rfl (b:=b17) zM rfl rfl rfl ?_
      refine za 1 rfl ?_
      refine qp (l':=z7 ⟨s.own,g0,true⟩) rfl rfl qO rfl rfl (b:=b14) zM (by show 0+2≤5; decide) rfl zU ?_
      refine za 2 rfl ?_
      refine qK (vs:=z7 ⟨s.own,g0,true⟩) rfl Q4 rfl (b:=b14) zM rfl rfl rfl ?_
      refine qH rfl rfl ?_
      refine qp (l':=z7 ⟨s.own,g0,true⟩) rfl rfl Q4 rfl rfl (b:=b8) zM (by exact Nat.le_refl 5) rfl zU ?_
      refine za 2 rfl ?_
      refine zC (H2:=(mb,.cells 217 7 [zi (kind:Int),zi (entries:Int),zi (words:Int),zp ab,zp tb,zp bo,.bool closed])::(HA3++(HT3++(HO3++H)))) Tryz.results61 (.nil _) (.own (vs:=z7 ⟨s.own,g0,true⟩) rfl Q4 rfl (b:=b8) zM rfl) (.tmp rfl) zH ?_
      have hh:used.headD 0=o:=by cases used with
       | nil=>cases ho
       | cons a t=>exact Option.some.inj ho
      have e:(Xm.put (⟨kind,entries,words,closed,L,C,used⟩:Xm) how k ws)=(((Xm.unlink (⟨kind,entries,words,closed,L,C,used⟩:Xm) o).1.link ⟨k,W4.of ws⟩).1,⟨((Xm.unlink (⟨kind,entries,words,closed,L,C,used⟩:Xm) o).1.link ⟨k,W4.of ws⟩).2,(Xm.unlink (⟨kind,entries,words,closed,L,C,used⟩:Xm) o).2,true⟩,0):=by
       unfold Xm.put
       rw [if_neg (by dsimp only; omega)]
       rw [if_neg c1]
       dsimp only
       rw [hf]
       dsimp only
       rw [if_neg c2,if_pos c3,hh]
      rw [e,Xm.link_is (x:=(Xm.unlink (⟨kind,entries,words,closed,L,C,used⟩:Xm) o).1) hfi hs]
      exact ⟨HA3,HT3,HO3,hA3,hB3,hO3.up (by omega),by rw [hg0]; rfl,rfl⟩
     ·skip
      refine za 3 rfl ?_
      refine qK (vs:=zQ ⟨k,W4.of ws⟩) rfl Ql rfl (b:=b10) zM rfl rfl rfl ?_
      obtain ⟨i,s,hfi,hs⟩:=Xm.free_slot (x:=(⟨kind,entries,words,closed,L,C,used⟩:Xm)) (how:=how) (Classical.not_not.1 c2)
      dsimp only at hfi hs
      have hkn:=Xw.1 hf
      have hul:=hx.ulen
      have hle:=hx.le
      dsimp only at hul hle
      refine qn (zc2 rfl rfl) Tryz.call149 rfl ((qcp (closed:=closed) (kind:=kind) (words:=words) hA hB hO zO (by have:=hx.ent; dsimp only at this; omega) (c:=⟨k,W4.of ws⟩) hfi hs hkn zO zO hTab (H:=(b14,.cells 139 5 (z7 Qq))::(b11,.cells 40 2 (hdC zHd))::(b10,.cells 220 5 (zQ ⟨k,W4.of ws⟩))::(b8,.cells 139 5 (z7 Qq))::H)).hsub zH) ?_
      rintro v H' ⟨HA3,HT3,HO3,hA3,hB3,hO3,rfl,rfl⟩
      refine za 3 rfl ?_
      refine qA (l:=hdC zHd) qO rfl rfl (fun b17=>?_)
      refine qp (l':=hdC s.own) rfl rfl qO rfl rfl (b:=b17) zM (by exact Nat.le_refl 2) rfl zU ?_
      refine za 3 rfl ?_
      refine qK (vs:=hdC s.own) rfl qO rfl (b:=b17) zM rfl rfl rfl ?_
      refine za 1 rfl ?_
      refine qp (l':=z7 ⟨s.own,zHd,false⟩) rfl rfl qO rfl rfl (b:=b14) zM (by show 0+2≤5; decide) rfl zU ?_
      refine za 2 rfl ?_
      refine qK (vs:=z7 ⟨s.own,zHd,false⟩) rfl Q4 rfl (b:=b14) zM rfl rfl rfl ?_
      refine qH rfl rfl ?_
      refine qp (l':=z7 ⟨s.own,zHd,false⟩) rfl rfl Q4 rfl rfl (b:=b8) zM (by exact Nat.le_refl 5) rfl zU ?_
      refine za 2 rfl ?_
      refine zC (H2:=(mb,.cells 217 7 [zi (kind:Int),zi (entries:Int),zi (words:Int),zp ab,zp tb,zp bo,.bool closed])::(HA3++(HT3++(HO3++H)))) Tryz.results61 (.nil _) (.own (vs:=z7 ⟨s.own,zHd,false⟩) rfl Q4 rfl (b:=b8) zM rfl) (.tmp rfl) zH ?_
      have e:(Xm.put (⟨kind,entries,words,closed,L,C,used⟩:Xm) how k ws)=((Xm.link (⟨kind,entries,words,closed,L,C,used⟩:Xm) ⟨k,W4.of ws⟩).1,⟨(Xm.link (⟨kind,entries,words,closed,L,C,used⟩:Xm) ⟨k,W4.of ws⟩).2,zHd,false⟩,0):=by
       unfold Xm.put
       rw [if_neg (by dsimp only; omega)]
       rw [if_neg c1]
       dsimp only
       rw [hf]
       dsimp only
       rw [if_neg c2,if_neg c3]
      rw [e,Xm.link_is (x:=(⟨kind,entries,words,closed,L,C,used⟩:Xm)) hfi hs]
      exact ⟨HA3,HT3,HO3,hA3,hB3,hO3.up zO,rfl,rfl⟩
   ·skip
    simp only [Option.getD_some,Option.isSome_some,if_true]
    refine za 3 rfl ?_
    refine qA (l:=hdC zHd) qO rfl rfl (fun b11=>?_)
    refine qp (l':=hdC g) rfl rfl qO rfl rfl (b:=b11) zM (by exact Nat.le_refl 2) rfl zU ?_
    refine za 12 rfl ?_
    refine qq (p:=how=1) rfl (by simp) (fun c2=>?_) (fun c2=>?_)
    ·skip
     refine zo ?_
     refine zb (l:=z7 Qq) Q4 qdg .nil rfl rfl rfl ?_
     refine qp (l':=z7 Qq) rfl rfl Q4 rfl rfl (b:=b8) zM (by exact Nat.le_refl 5) rfl zU ?_
     refine za 2 rfl ?_
     refine zC (H2:=(mb,.cells 217 7 [zi (kind:Int),zi (entries:Int),zi (words:Int),zp ab,zp tb,zp bo,.bool closed])::(HA++(HT++(HO++H)))) Tryz.results61 (.nil _) (.own (vs:=z7 Qq) rfl Q4 rfl (b:=b8) zM rfl) (.tmp rfl) zH ?_
     have e:(Xm.put (⟨kind,entries,words,closed,L,C,used⟩:Xm) how k ws)=((⟨kind,entries,words,closed,L,C,used⟩:Xm),Qq,5):=by
      unfold Xm.put
      rw [if_neg (by dsimp only; omega)]
      rw [if_neg c1]
      dsimp only
      rw [hf]
      dsimp only
      rw [if_pos c2]
     rw [e]
     exact ⟨HA,HT,HO,hA,hB,hO.up zO,rfl,rfl⟩
    ·skip
     refine za 5 rfl ?_
     refine qf (v:=zp bo) rfl Yf rfl (qh.own (b:=mb) zM rfl) rfl ?_
     refine qH rfl rfl ?_
     refine qv (l:=[zu k]) Zq zX (.cons rfl rfl rfl rfl rfl .nil) rfl rfl rfl rfl rfl rfl rfl (fun b68=>?_)
     refine qn (zc2 rfl rfl) Tryz.call143 rfl ((hO.touch hTl (k:=k) (cap:=1) (.inl (hx.umem.2 (Ku hf))) (Holds.own (b:=b68) zM) (H:=(b68,.cells 30 (1*1) [zu k])::(b11,.cells 40 2 (hdC g))::(b10,.cells 220 5 (zQ ⟨k,W4.of ws⟩))::(b8,.cells 139 5 (z7 Qq))::(mb,.cells 217 7 [zi (kind:Int),zi (entries:Int),zi (words:Int),zp ab,zp tb,zp bo,.bool closed])::(HA++(HT++H)))).hsub zH) ?_
     rintro v H' ⟨HO2,hO2,rfl,rfl⟩
     refine za 2 rfl ?_
     refine zy [(mb,.cells 217 7 [zi (kind:Int),zi (entries:Int),zi (words:Int),zp ab,zp tb,zp bo,.bool closed]),(b11,.cells 40 2 (hdC g)),(b10,.cells 220 5 (zQ ⟨k,W4.of ws⟩))] zk ?_
     refine qm 0 rfl zK zK zK rfl rfl (Qf (vs:=hdC g) rfl qO rfl (b:=b11) zM rfl rfl) rfl ?_
     refine qm 1 rfl zK zK zK rfl rfl (qaK (l:=z7 ⟨g,zHd,false⟩) Q4 qdg (.cons rfl rfl rfl rfl rfl .nil) rfl rfl) rfl ?_
     refine zw [2,3,4] rfl rfl ?_
     refine qm 5 rfl zK zK zK rfl rfl (ql (v:=zp ab) rfl Z6 rfl (qh.own (b:=mb) zM rfl)) rfl ?_
     refine qm 6 rfl zK zK zK rfl rfl (Qf (vs:=hdC g) rfl qO rfl (b:=b11) zM rfl rfl) rfl ?_
     refine qm 7 rfl zK zK zK rfl rfl (Qf (vs:=zQ (⟨k,W4.of ws⟩)) rfl Ql rfl (b:=b10) zM rfl rfl) rfl ?_
     refine qJ 8 zH zK rfl rfl ?_
     refine qn (zc3 rfl rfl rfl) Tryz.call144 rfl ((hA.set (h:=g) (c:=⟨k,W4.of ws⟩) (H:=(b11,.cells 40 2 (hdC g))::(b10,.cells 220 5 (zQ ⟨k,W4.of ws⟩))::(b8,.cells 139 5 (z7 Qq))::(mb,.cells 217 7 [zi (kind:Int),zi (entries:Int),zi (words:Int),zp ab,zp tb,zp bo,.bool closed])::(HT++(HO2++H)))).hsub zH) ?_
     rintro v H' ⟨HA2,hA2,rfl,rfl⟩
     refine qs (WC_goal ?_)
     refine qJ 9 zH zK rfl rfl ?_
     refine qp (l':=z7 ⟨g,zHd,false⟩) rfl rfl Q4 rfl rfl (b:=b8) zM (by exact Nat.le_refl 5) rfl zU ?_
     refine qs (WC_goal (zw [10] rfl rfl (WC_done zH zK ?_)))
     refine zC (H2:=(mb,.cells 217 7 [zi (kind:Int),zi (entries:Int),zi (words:Int),zp ab,zp tb,zp bo,.bool closed])::(HA2++(HT++(HO2++H)))) Tryz.results61 (.nil _) (.own (vs:=z7 ⟨g,zHd,false⟩) rfl Q4 rfl (b:=b8) zM rfl) (.tmp rfl) zH ?_
     have e:(Xm.put (⟨kind,entries,words,closed,L,C,used⟩:Xm) how k ws)=({ Xm.use (⟨kind,entries,words,closed,L,C,used⟩:Xm) k with L:=Qa L g (fun s=>{ s with cel:=⟨k,W4.of ws⟩ }) },⟨g,zHd,false⟩,zA L g):=by
      unfold Xm.put
      rw [if_neg (by dsimp only; omega)]
      rw [if_neg c1]
      dsimp only
      rw [hf]
      dsimp only
      rw [if_neg c2]
     rw [e]
     exact ⟨HA2,HT,HO2,hA2,hB,hO2.up (Nat.le_succ _),rfl,rfl⟩
theorem qb8 (hA:QZ ab L HA) (hB:QR tb entries C HT) {fi:Nat} {ca:List Value} (he:zA L h≠0) (hm:∀ p∈((mb,.cells 217 7 [zi (kind:Int),zi (entries:Int),zi (words:Int),zp ab,zp tb,zp bo,.bool closed])::(HA++(HT++HO))),p∈H) :qG Tryz.prog w0 H 152 [zp mb,.agg (List.toArray (hdC h)),Value.func (.func fi) #[] ca.toArray] (zi (zA L h)):=by
 refine qd Tryz.func152 rfl Tryz.ntmps152 rfl rfl (zo ?_)
 refine qR rfl rfl rfl (fun b4=>?_)
 refine za 5 rfl ?_
 refine W_x (qE rfl rfl Ya) (fun _ h=>by cases h) rfl ?_
 refine za 4 rfl ?_
 refine qbD (X:=Nat) (fun x=>[(0,zp mb),(2,Value.func (.func fi) #[] ca.toArray),(7,zp x),(8,zi (zA L h))]) (fun x=>(x,.cells 220 5 (zQ (Zz L h)))::(b4,.cells 40 2 (hdC h))::H) (fun _=>True) ?_ ?_
 ·skip
  refine zy ((b4,.cells 40 2 (hdC h))::H) zk ?_
  refine zw [0,1,2] rfl rfl ?_
  refine qm 3 rfl zK zK zK rfl rfl (ql (v:=zp ab) rfl Z6 rfl (qh.own (b:=mb) (by repeat (first | exact hm _ List.mem_cons_self | apply List.mem_cons_of_mem)) rfl)) rfl ?_
  refine qm 4 rfl zK zK zK rfl rfl (Qf (vs:=hdC h) rfl qO rfl (b:=b4) zM rfl rfl) rfl ?_
  refine qac 5 9 zH zK rfl rfl rfl rfl ?_ ?_
  ·skip
   refine qB (zc2 rfl rfl) Tryz.call245 rfl (hA.get (h:=h) (fun p hp=>by repeat (first | exact hm p (List.mem_cons_of_mem _ (List.mem_append_left _ hp)) | apply List.mem_cons_of_mem))) ?_
   refine qs (WC_goal (zw [6,7,8] rfl rfl ?_))
   refine qJ 9 zH zK rfl rfl ?_
   refine qA (l:=zQ Zi) Ql rfl rfl (fun b7=>?_)
   refine qs (WC_goal ?_)
   refine qJ 10 zH zK rfl rfl ?_
   refine qp (l':=zQ (Zz L h)) rfl rfl Ql rfl rfl (b:=b7) zM (by exact Nat.le_refl 5) rfl zU ?_
   refine qs (WC_goal (zw [11] rfl rfl (WC_done zH zK ?_)))
   refine Z0 b7 trivial (qc rfl (qc rfl (qc rfl (qc rfl (qi _))))) zH
  ·skip
   refine qA (l:=zQ Zi) Ql rfl rfl (fun b7=>?_)
   refine qs (WC_goal ?_)
   refine qJ 5 zH zK rfl rfl ?_
   refine qB (zc2 rfl rfl) Tryz.call245 rfl (hA.get (h:=h) (fun p hp=>by repeat (first | exact hm p (List.mem_cons_of_mem _ (List.mem_append_left _ hp)) | apply List.mem_cons_of_mem))) ?_
   refine qs (WC_goal (zw [6,7,8] rfl rfl ?_))
   refine qJ 10 zH zK rfl rfl ?_
   refine qp (l':=zQ (Zz L h)) rfl rfl Ql rfl rfl (b:=b7) zM (by exact Nat.le_refl 5) rfl zU ?_
   refine qs (WC_goal (zw [11] rfl rfl (WC_done zH zK ?_)))
   refine Z0 b7 trivial (qc rfl (qc rfl (qc rfl (qc rfl (qi _))))) zH
 rintro b7 -
 refine za 5 rfl (qcO rfl (decide_eq_true he) (za 4 rfl ?_))
 refine qj (H2:=H) Tryz.results152 rfl (.nil _) zH ?_
 exact ⟨rfl,rfl⟩
theorem qaN (hA:QZ ab L HA) (hB:QR tb entries C HT) {fi:Nat} {ca:List Value} {R:Value→qe→Prop} (hfi:∀ (args:Array Value) (w:World),(callFunc fi args).run Tryz.prog w=.ok (.enter fi args) w) (he:zA L h=0) (hm:∀ p∈((mb,.cells 217 7 [zi (kind:Int),zi (entries:Int),zi (words:Int),zp ab,zp tb,zp bo,.bool closed])::(HA++(HT++HO))),p∈H) (hdo:qk Tryz.prog w0 fi (#[]++#[.agg (List.toArray (zQ (Zz L h)))]++ca.toArray) (H) R) :qk Tryz.prog w0 152 #[zp mb,.agg (List.toArray (hdC h)),Value.func (.func fi) #[] ca.toArray] (H) (R):=by
 refine qd (l:=[zp mb,.agg (List.toArray (hdC h)),Value.func (.func fi) #[] ca.toArray]) Tryz.func152 rfl Tryz.ntmps152 rfl rfl ?_
 refine zo ?_
 refine qR rfl rfl rfl (fun b4=>?_)
 refine za 5 rfl ?_
 refine W_x (qE rfl rfl Ya) (fun _ h=>by cases h) rfl ?_
 refine za 4 rfl ?_
 refine qbD (X:=Nat) (fun x=>[(0,zp mb),(2,Value.func (.func fi) #[] ca.toArray),(7,zp x),(8,zi (zA L h))]) (fun x=>(x,.cells 220 5 (zQ (Zz L h)))::(b4,.cells 40 2 (hdC h))::H) (fun _=>True) ?_ ?_
 ·skip
  refine zy ((b4,.cells 40 2 (hdC h))::H) zk ?_
  refine zw [0,1,2] rfl rfl ?_
  refine qm 3 rfl zK zK zK rfl rfl (ql (v:=zp ab) rfl Z6 rfl (qh.own (b:=mb) (by repeat (first | exact hm _ List.mem_cons_self | apply List.mem_cons_of_mem)) rfl)) rfl ?_
  refine qm 4 rfl zK zK zK rfl rfl (Qf (vs:=hdC h) rfl qO rfl (b:=b4) zM rfl rfl) rfl ?_
  refine qac 5 9 zH zK rfl rfl rfl rfl ?_ ?_
  ·skip
   refine qB (zc2 rfl rfl) Tryz.call245 rfl (hA.get (h:=h) (fun p hp=>by repeat (first | exact hm p (List.mem_cons_of_mem _ (List.mem_append_left _ hp)) | apply List.mem_cons_of_mem))) ?_
   refine qs (WC_goal (zw [6,7,8] rfl rfl ?_))
   refine qJ 9 zH zK rfl rfl ?_
   refine qA (l:=zQ Zi) Ql rfl rfl (fun b7=>?_)
   refine qs (WC_goal ?_)
   refine qJ 10 zH zK rfl rfl ?_
   refine qp (l':=zQ (Zz L h)) rfl rfl Ql rfl rfl (b:=b7) zM (by exact Nat.le_refl 5) rfl zU ?_
   refine qs (WC_goal (zw [11] rfl rfl (WC_done zH zK ?_)))
   refine Z0 b7 trivial (qc rfl (qc rfl (qc rfl (qc rfl (qi _))))) zH
  ·skip
   refine qA (l:=zQ Zi) Ql rfl rfl (fun b7=>?_)
   refine qs (WC_goal ?_)
   refine qJ 5 zH zK rfl rfl ?_
   refine qB (zc2 rfl rfl) Tryz.call245 rfl (hA.get (h:=h) (fun p hp=>by repeat (first | exact hm p (List.mem_cons_of_mem _ (List.mem_append_left _ hp)) | apply List.mem_cons_of_mem))) ?_
   refine qs (WC_goal (zw [6,7,8] rfl rfl ?_))
   refine qJ 10 zH zK rfl rfl ?_
   refine qp (l':=zQ (Zz L h)) rfl rfl Ql rfl rfl (b:=b7) zM (by exact Nat.le_refl 5) rfl zU ?_
   refine qs (WC_goal (zw [11] rfl rfl (WC_done zH zK ?_)))
   refine Z0 b7 trivial (qc rfl (qc rfl (qc rfl (qc rfl (qi _))))) zH
 rintro b7 -
 refine za 5 rfl ?_
 refine QM rfl (decide_eq_false (fun h=>h he)) ?_
 refine za 3 rfl ?_
 refine qK (vs:=zQ (Zz L h)) rfl Ql rfl (b:=b7) zM rfl rfl rfl ?_
 refine JR (fa:=#[]) (ca:=ca.toArray) rfl (.cons rfl .nil) hfi rfl (hdo.hsub zH) ?_
 rintro v H' hR
 refine za 2 rfl ?_
 refine qj (H2:=H') Tryz.results152 rfl (.nil _) zH ?_
 exact hR
theorem qmP {b6:Nat} {z:Int} :qk Tryz.prog w0 153 #[.agg (List.toArray (zQ c)),zp b6] ((b6,.cells 30 1 [zu z])::H) (fun v H'=>v=zi 0∧H'=(b6,.cells 30 1 [zu c.key])::H):=by
 refine qd (l:=[.agg (List.toArray (zQ c)),zp b6]) Tryz.func153 rfl Tryz.ntmps153 rfl rfl ?_
 refine zo ?_
 refine qR (l:=zQ c) rfl rfl rfl (fun b2=>?_)
 refine za 4 rfl ?_
 refine qf (v:=zu c.key) rfl zX rfl (qh.own (b:=b2) zM rfl) rfl ?_
 refine qy (l':=[zu c.key]) rfl rfl zX rfl rfl (b:=b6) zM rfl rfl zU ?_
 refine za 4 rfl ?_
 refine qj (H2:=(b6,.cells 30 1 [zu c.key])::H) Tryz.results153 rfl (.nil _) zH ?_
 exact ⟨rfl,rfl⟩
theorem Key_q (hA:QZ ab L HA) (hB:QR tb entries C HT) (hm:∀ p∈((mb,.cells 217 7 [zi (kind:Int),zi (entries:Int),zi (words:Int),zp ab,zp tb,zp bo,.bool closed])::(HA++(HT++HO))),p∈H) :qG Tryz.prog w0 H 66 [zp mb,.agg (List.toArray (hdC h))] (.tuple #[zu (Zz L h).key,zi (zA L h)]):=by
 refine qd Tryz.func66 rfl Tryz.ntmps66 rfl rfl ?_
 by_cases he:zA L h=0
 ·skip
  refine zo ?_
  refine qR (l:=hdC h) rfl rfl rfl (fun b3=>?_)
  refine za 4 rfl ?_
  refine qA (l:=[zu 0]) zX rfl rfl (fun b6=>?_)
  refine za 3 rfl ?_
  refine qK (vs:=hdC h) rfl qO rfl (b:=b3) zM rfl rfl rfl ?_
  refine qL .nil (.cons rfl .nil) rfl ?_
  refine qn (zc3 rfl rfl rfl) Tryz.call152 rfl (qaN (ca:=[zp b6]) hA hB Tryz.call153 he (HO:=HO) (closed:=closed) (kind:=kind) (words:=words) (fun p hp=>by repeat (first | exact hm p hp | apply List.mem_cons_of_mem)) (qmP (c:=Zz L h) (z:=0))) ?_
  rintro v H' ⟨rfl,rfl⟩
  refine za 3 rfl ?_
  refine qf (v:=zu (Zz L h).key) rfl zX rfl (qh.own (b:=b6) zM rfl) rfl ?_
  refine za 4 rfl ?_
  refine qP (H2:=H) Tryz.results66 rfl rfl (.nil _) zH ?_
  exact ⟨by rw [he],rfl⟩
 ·skip
  refine zo ?_
  refine qR (l:=hdC h) rfl rfl rfl (fun b3=>?_)
  refine za 4 rfl ?_
  refine qA (l:=[zu 0]) zX rfl rfl (fun b6=>?_)
  refine za 3 rfl ?_
  refine qK (vs:=hdC h) rfl qO rfl (b:=b3) zM rfl rfl rfl ?_
  refine qL .nil (.cons rfl .nil) rfl ?_
  refine qB (zc3 rfl rfl rfl) Tryz.call152 rfl (qb8 (ca:=[zp b6]) hA hB he (HO:=HO) (closed:=closed) (kind:=kind) (words:=words) (fun p hp=>by repeat (first | exact hm p hp | apply List.mem_cons_of_mem))) ?_
  refine za 3 rfl ?_
  refine qf (v:=zu 0) rfl zX rfl (qh.own (b:=b6) zM rfl) rfl ?_
  refine za 4 rfl ?_
  refine qP (H2:=H) Tryz.results66 rfl rfl (.nil _) zH ?_
  exact ⟨by rw [(YR he).1]; rfl,rfl⟩
theorem qfO {b2 b3 b5:Nat} (hB:QR tb entries C HT) (hm:∀ p∈((mb,.cells 217 7 [zi (kind:Int),zi (entries:Int),zi (words:Int),zp ab,zp tb,zp bo,.bool closed])::(HA++(HT++HO))),p∈H) :qk Tryz.prog w0 343 #[.agg (List.toArray (zQ c)),zp b2,zp b3,zp b5] ((b5,.cells 4 1 [.bool false])::(b3,.cells 40 2 (hdC h))::(b2,.cells 65 1 [zp mb])::H) (fun v H'=>(∃ e,v=zi e)∧H'=(b5,.cells 4 1 [.bool (decide (Qz C c.key=some h))])::(b3,.cells 40 2 (hdC h))::(b2,.cells 65 1 [zp mb])::H):=by
 refine qd (l:=[.agg (List.toArray (zQ c)),zp b2,zp b3,zp b5]) Tryz.func343 rfl Tryz.ntmps343 rfl rfl ?_
 refine zo ?_
 refine qR (l:=zQ c) rfl rfl rfl (fun b4=>?_)
 refine za 3 rfl ?_
 refine qf (v:=zp mb) rfl Ya rfl (qh.own (b:=b2) zM rfl) rfl ?_
 refine za 1 rfl ?_
 refine qf (v:=zu c.key) rfl zX rfl (qh.own (b:=b4) zM rfl) rfl ?_
 refine qB (zc2 rfl rfl) Tryz.call142 rfl (qcQ hB (k:=c.key) (HA:=HA) (HO:=HO) (closed:=closed) (kind:=kind) (words:=words) (fun p hp=>by repeat (first | exact hm p hp | apply List.mem_cons_of_mem))) ?_
 rcases hf:Qz C c.key with _ | g
 ·skip
  simp only [Option.getD_none,Option.isSome_none,Bool.false_eq_true,if_false]
  refine za 3 rfl ?_
  refine qA (l:=hdC zHd) qO rfl rfl (fun b6=>?_)
  refine qp (l':=hdC zHd) rfl rfl qO rfl rfl (b:=b6) zM (by exact Nat.le_refl 2) rfl zU ?_
  refine za 5 rfl ?_
  rw [decide_eq_false (show ¬ (4:Int)=0 by decide)]
  refine za 5 rfl ?_
  refine qy (l':=[.bool false]) rfl rfl ty4 rfl rfl (b:=b5) zM rfl rfl zU ?_
  refine za 5 rfl ?_
  refine qj (H2:=(b5,.cells 4 1 [.bool false])::(b3,.cells 40 2 (hdC h))::(b2,.cells 65 1 [zp mb])::H) Tryz.results343 rfl (.nil _) zH ?_
  exact ⟨⟨_,rfl⟩,by rw [decide_eq_false (show ¬ (none:Option Hd)=some h from nofun)]⟩
 ·skip
  simp only [Option.getD_some,Option.isSome_some,if_true]
  refine za 3 rfl ?_
  refine qA (l:=hdC zHd) qO rfl rfl (fun b6=>?_)
  refine qp (l':=hdC g) rfl rfl qO rfl rfl (b:=b6) zM (by exact Nat.le_refl 2) rfl zU ?_
  refine za 5 rfl ?_
  rw [decide_eq_true (show (0:Int)=0 from rfl)]
  refine za 2 rfl ?_
  refine qK (vs:=hdC g) rfl qO rfl (b:=b6) zM rfl rfl rfl ?_
  refine Qk rfl rfl ?_
  refine qK (vs:=hdC h) rfl qO rfl (b:=b3) zM rfl rfl rfl ?_
  refine Qk rfl rfl ?_
  refine W_x (qmd (f:=hdC) rfl rfl qcB qfa Kv qaF qkU zd) (fun _ h=>by cases h) rfl ?_
  refine qm7 rfl rfl rfl ?_
  refine qy (l':=[.bool (decide (g=h))]) rfl rfl ty4 rfl rfl (b:=b5) zM rfl rfl zU ?_
  refine za 5 rfl ?_
  refine qj (H2:=(b5,.cells 4 1 [.bool (decide (g=h))])::(b3,.cells 40 2 (hdC h))::(b2,.cells 65 1 [zp mb])::H) Tryz.results343 rfl (.nil _) zH ?_
  exact ⟨⟨_,rfl⟩,by rw [show decide (some g=some h)=decide (g=h) from decide_eq_decide.2 (by simp)]⟩
theorem qjU (hA:QZ ab L HA) (hB:QR tb entries C HT) (used:List Int) (hm:∀ p∈((mb,.cells 217 7 [zi (kind:Int),zi (entries:Int),zi (words:Int),zp ab,zp tb,zp bo,.bool closed])::(HA++(HT++HO))),p∈H) :qG Tryz.prog w0 H 254 [zp mb,.agg (List.toArray (hdC h))] (.bool (Xm.linked (⟨kind,entries,words,closed,L,C,used⟩:Xm) h)):=by
 refine qd Tryz.func254 rfl Tryz.ntmps254 rfl rfl ?_
 by_cases he:zA L h=0
 ·skip
  refine zo ?_
  refine qR (l:=[zp mb]) rfl rfl rfl (fun b2=>?_)
  refine qR (l:=hdC h) rfl rfl rfl (fun b3=>?_)
  refine za 3 rfl ?_
  refine qA (l:=[.bool false]) ty4 rfl rfl (fun b5=>?_)
  refine qy (l':=[.bool false]) rfl rfl ty4 rfl rfl (b:=b5) zM rfl rfl zU ?_
  refine za 2 rfl ?_
  refine qf (v:=zp mb) rfl Ya rfl (qh.own (b:=b2) zM rfl) rfl ?_
  refine qK (vs:=hdC h) rfl qO rfl (b:=b3) zM rfl rfl rfl ?_
  refine qL .nil (.cons rfl (.cons rfl (.cons rfl .nil))) rfl ?_
  refine qn (zc3 rfl rfl rfl) Tryz.call152 rfl (qaN (ca:=[zp b2,zp b3,zp b5]) hA hB (HO:=HO) (closed:=closed) (kind:=kind) (words:=words) Tryz.call343 he (fun p hp=>by repeat (first | exact hm p hp | apply List.mem_cons_of_mem)) (qfO hB (c:=Zz L h) (h:=h) hm)) ?_
  rintro v H' ⟨⟨e1,rfl⟩,rfl⟩
  refine za 2 rfl ?_
  refine qf (v:=.bool (decide (Qz C (Zz L h).key=some h))) rfl ty4 rfl (qh.own (b:=b5) zM rfl) rfl ?_
  refine za 2 rfl ?_
  refine qj (H2:=H) Tryz.results254 rfl (.nil _) zH ?_
  exact ⟨by unfold Xm.linked; rw [decide_eq_true he,Bool.true_and],rfl⟩
 ·skip
  refine zo ?_
  refine qR (l:=[zp mb]) rfl rfl rfl (fun b2=>?_)
  refine qR (l:=hdC h) rfl rfl rfl (fun b3=>?_)
  refine za 3 rfl ?_
  refine qA (l:=[.bool false]) ty4 rfl rfl (fun b5=>?_)
  refine qy (l':=[.bool false]) rfl rfl ty4 rfl rfl (b:=b5) zM rfl rfl zU ?_
  refine za 2 rfl ?_
  refine qf (v:=zp mb) rfl Ya rfl (qh.own (b:=b2) zM rfl) rfl ?_
  refine qK (vs:=hdC h) rfl qO rfl (b:=b3) zM rfl rfl rfl ?_
  refine qL .nil (.cons rfl (.cons rfl (.cons rfl .nil))) rfl ?_
  refine qB (zc3 rfl rfl rfl) Tryz.call152 rfl (qb8 (ca:=[zp b2,zp b3,zp b5]) hA hB he (HO:=HO) (closed:=closed) (kind:=kind) (words:=words) (fun p hp=>by repeat (first | exact hm p hp | apply List.mem_cons_of_mem))) ?_
  refine za 2 rfl ?_
  refine qf (v:=.bool false) rfl ty4 rfl (qh.own (b:=b5) zM rfl) rfl ?_
  refine za 2 rfl ?_
  refine qj (H2:=H) Tryz.results254 rfl (.nil _) zH ?_
  exact ⟨by unfold Xm.linked; rw [decide_eq_false he,Bool.false_and],rfl⟩
def sortU (l:List Int):List Int:=l.mergeSort (fun a b=>decide (a≤b))
noncomputable def Xm.keys (x:Xm):List Int:=if x.kind=2 then x.used else if x.kind=0 then sortU (keysC x.C) else keysC x.C
theorem qlL (hA:QZ ab L HA) (hB:QR tb entries C HT) (hm:∀ p∈((mb,.cells 217 7 [zi (kind:Int),zi (entries:Int),zi (words:Int),zp ab,zp tb,zp bo,.bool closed])::(HA++(HT++HO))),p∈H) :qG Tryz.prog w0 H 43 [zp mb] (zi ((XT 1 L:Nat):Int)):=by
 refine qd Tryz.func43 rfl Tryz.ntmps43 rfl rfl (za 6 rfl ?_)
 refine W_x (qE rfl rfl Ya) (fun _ h=>by cases h) rfl ?_
 refine za 7 rfl ?_
 refine qf (v:=zp ab) rfl Z6 rfl (qh.own (b:=mb) (by repeat (first | exact hm _ List.mem_cons_self | apply List.mem_cons_of_mem)) rfl) rfl ?_
 refine qB (zc1 rfl) Tryz.call125 rfl (hA.lenq (fun p hp=>by repeat (first | exact hm p (List.mem_cons_of_mem _ (List.mem_append_left _ hp)) | apply List.mem_cons_of_mem))) ?_
 refine za 2 rfl ?_
 refine qj (H2:=H) Tryz.results43 rfl (.nil _) zH ?_
 exact ⟨rfl,rfl⟩
def qlt (i:Nat):Slt:=⟨⟨(i:Int),1⟩,1,⟨(i:Int),zW⟩⟩
def qaz (n k:Nat):List Slt:=(List.range n).map fun i=>if i<k then qlt i else qdk i
def XE (k:Nat):List (Int × Hd):=((List.range k).map fun i:Nat=>(((i:Int),⟨(i:Int),1⟩):Int × Hd)).reverse
def XU (k:Nat):List Int:=(List.range k).map fun i:Nat=>(i:Int)
theorem Jp (n k:Nat):(qaz n k).length=n:=by unfold qaz; rw [List.length_map,List.length_range]
theorem JO {k:Nat} (h:i<n):(qaz n k)[i]?=some (if i<k then qlt i else qdk i):=by
 unfold qaz; rw [List.getElem?_map,List.getElem?_range h]; rfl
theorem qgi (n:Nat):qaz n 0=Yz n n:=by
 apply List.ext_getElem?
 intro i
 by_cases h:i<n
 ·rw [JO h,JJ h,if_neg (by omega),if_pos h]
 ·rw [List.getElem?_eq_none (by rw [Jp]; omega),List.getElem?_eq_none (by rw [Q7]; omega)]
theorem qjE {k:Nat}:(qaz n k).set k (qlt k)=qaz n (k+1):=by
 apply List.ext_getElem?
 intro j
 by_cases hj:j<n
 ·by_cases e:k=j
  ·subst e
   rw [List.getElem?_set_self (by rw [Jp]; exact hj),JO hj,if_pos (by omega)]
  ·rw [List.getElem?_set_ne e,JO hj,JO hj]
   by_cases c:j<k
   ·rw [if_pos c,if_pos (by omega)]
   ·rw [if_neg c,if_neg (by omega)]
 ·rw [List.getElem?_eq_none (by rw [List.length_set,Jp]; omega),List.getElem?_eq_none (by rw [Jp]; omega)]
theorem qez {k:Nat} (h:k<n):Zx (qaz n k)=some k:=by
 unfold Zx
 rw [List.findIdx?_eq_some_iff_getElem]
 refine ⟨by rw [Jp]; exact h,?_,fun j hj=>?_⟩
 ·have:=JO (k:=k) h
  rw [if_neg (Nat.lt_irrefl _)] at this
  obtain ⟨h1,h2⟩:=List.getElem?_eq_some_iff.1 this
  rw [h2]; rfl
 ·have:=JO (n:=n) (k:=k) (i:=j) zO
  rw [if_pos hj] at this
  obtain ⟨h1,h2⟩:=List.getElem?_eq_some_iff.1 this
  rw [h2]
  show ¬ decide ((1:Nat)=0)=true
  decide
theorem qgj (k:Nat):XE (k+1)=((k:Int),⟨(k:Int),1⟩)::XE k:=by
 unfold XE; rw [List.range_succ,List.map_append,List.reverse_append]; rfl
theorem qdL (k:Nat):(XE k).length=k:=by unfold XE; rw [List.length_reverse,List.length_map,List.length_range]
theorem qjD (k:Nat):(XU k).length=k:=by unfold XU; rw [List.length_map,List.length_range]
theorem qbx {k:Nat} {x:Int}:x∈XU k↔0≤x∧x<(k:Int):=by
 unfold XU
 rw [List.mem_map]
 constructor
 ·rintro ⟨i,hi,rfl⟩
  have:=List.mem_range.1 hi
  omega
 ·intro h
  exact ⟨x.toNat,List.mem_range.2 zO,by omega⟩
theorem qey (k:Nat):(XU k).Nodup:=by
 unfold XU
 exact List.Pairwise.map _ (fun a b (h:a≠b)=>by show (a:Int)≠(b:Int); omega) List.nodup_range
theorem qgh (k:Nat):zN (XU k) (k:Int)++[(k:Int)]=XU (k+1):=by
 rw [J2 (fun h=>by have:=(qbx.1 h).2; omega)]
 unfold XU; rw [List.range_succ,List.map_append]; rfl
theorem Xy (k:Nat):QX (XE k)=(XU k).reverse:=by
 unfold XE XU
 show List.map _ (List.reverse _)=_
 rw [List.map_reverse,List.map_map]; rfl
theorem qjF {k:Nat} {p:Int × Hd} (h:p∈XE k):∃ i:Nat,i<k∧p=((i:Int),⟨(i:Int),1⟩):=by
 unfold XE at h
 obtain ⟨i,hi,rfl⟩:=List.mem_map.1 (List.mem_reverse.1 h)
 exact ⟨i,List.mem_range.1 hi,rfl⟩
theorem qm3 {kk:Nat} {b:Bool} (h1:kind≤2) (h2:1≤entries∧entries≤8) (h3:1≤words∧words≤4) (hk:kk≤entries):(Xm.mk kind entries words b (qaz (2*entries) kk) (XE kk) (XU kk)).Ok where
 knd:=h1
 ent:=h2
 wrd:=h3
 len:=Jp _ _
 are:=⟨by rw [Jp]; omega,fun i s hs=>by
  have hi:i<2*entries:=by have:=(List.getElem?_eq_some_iff.1 hs).1; rwa [Jp] at this
  rw [JO hi] at hs
  obtain rfl:=Option.some.inj hs
  split
  ·exact ⟨rfl,by show (1:Int)≤1; decide,by show (1:Int)≤255; decide⟩
  ·exact ⟨rfl,by show (1:Int)≤1; decide,by show (1:Int)≤255; decide⟩⟩
 nd:=by show (QX (XE kk)).Nodup; rw [Xy]; exact (List.reverse_perm _).nodup_iff.2 (qey kk)
 perm:=by show (XU kk).Perm (QX (XE kk)); rw [Xy]; exact (List.reverse_perm _).symm
 le:=by show (XE kk).length≤entries; rw [qdL]; exact hk
 lk:=fun p hp=>by
  obtain ⟨i,hi,rfl⟩:=qjF hp
  exact ⟨i,qlt i,rfl,by show (qaz _ _)[i]?=_; rw [JO (by omega),if_pos hi],rfl,rfl,rfl⟩
 rng:=fun k hk2=>by
  have hk3:k∈QX (XE kk):=hk2
  rw [Xy] at hk3
  have:=qbx.1 (List.mem_reverse.1 hk3)
  omega
def Xm.new (kind entries words:Nat):Xm:=⟨kind,entries,words,false,qaz (2*entries) (if kind=0 then entries else 0),XE (if kind=0 then entries else 0),XU (if kind=0 then entries else 0)⟩
theorem qnk (h1:kind≤2) (h2:1≤entries∧entries≤8) (h3:1≤words∧words≤4) (hTab:Tab w0):qk Tryz.prog w0 81 #[zi (kind:Int),zi (entries:Int),zi (words:Int)] (H) (fun v H'=>∃ mb ab tb bo HA HT HO,QZ ab (Xm.new kind entries words).L HA∧QR tb entries (Xm.new kind entries words).C HT∧ZP bo entries 8 (Xm.new kind entries words).used HO∧v=.tuple #[zp mb,zi 0]∧H'=(mb,.cells 217 7 [zi (kind:Int),zi (entries:Int),zi (words:Int),zp ab,zp tb,zp bo,.bool false])::(HA++(HT++(HO++H)))):=by
 refine qd (l:=[zi (kind:Int),zi (entries:Int),zi (words:Int)]) Tryz.func81 rfl Tryz.ntmps81 rfl rfl ?_
 refine za 10 rfl ?_
 apply XH
 iterate 4 exact rfl
 case h1 =>
  intro hg2
  refine za 4 rfl ?_
  exact Zv rfl zR
 refine za 2 rfl ?_
 refine QM rfl (by simp; omega) ?_
 refine za 4 rfl ?_
 apply XH
 iterate 4 exact rfl
 case h1 =>
  intro hg2
  refine za 4 rfl ?_
  exact Zv rfl zR
 refine qH rfl rfl ?_
 apply XH
 iterate 4 exact rfl
 case h1 =>
  intro hg6
  refine za 4 rfl ?_
  exact Zv rfl zR
 refine qH rfl rfl ?_
 apply XH
 iterate 4 exact rfl
 case h1 =>
  intro hg10
  refine za 4 rfl ?_
  exact Zv rfl zR
 refine za 2 rfl ?_
 refine QM rfl (by simp; omega) ?_
 refine za 6 rfl ?_
 refine zb (l:=[zi (kind:Int),zi (entries:Int),zi (words:Int),.pointer none,.pointer none,.pointer none,.bool false]) ty217 pl217 (.cons rfl rfl rfl rfl rfl (.cons rfl rfl rfl rfl rfl (.cons rfl rfl rfl rfl rfl .nil))) rfl rfl rfl ?_
 refine qR (l:=[zi (kind:Int),zi (entries:Int),zi (words:Int),.pointer none,.pointer none,.pointer none,.bool false]) rfl rfl rfl (fun b36=>?_)
 refine za 5 rfl ?_
 refine qF rfl rfl (qdK (m:=((2*entries:Nat):Int)) (by rw [qW (by omega)]; omega)) rfl ?_
 refine qn (zc1 rfl) Tryz.call170 rfl (QZ.new (n:=2*entries) zO zO) ?_
 rintro v H' ⟨ab,HA,hA,rfl,rfl⟩
 refine za 5 rfl ?_
 refine qy (l':=[zi (kind:Int),zi (entries:Int),zi (words:Int),zp ab,.pointer none,.pointer none,.bool false]) rfl rfl Z6 rfl rfl (b:=b36) zM rfl rfl zU ?_
 refine za 4 rfl ?_
 refine qn (zc2 rfl rfl) Tryz.call171 rfl (QR.new (room:=entries) zO zO) ?_
 rintro v H' ⟨tb,HT,hB,rfl,rfl⟩
 refine za 5 rfl ?_
 refine qy (l':=[zi (kind:Int),zi (entries:Int),zi (words:Int),zp ab,zp tb,.pointer none,.bool false]) rfl rfl Yg rfl rfl (b:=b36) zM rfl rfl zU ?_
 refine za 4 rfl ?_
 refine qn (zc1 rfl) Tryz.call172 rfl (ZP.new (room:=entries) zO) ?_
 rintro v H' ⟨bo,HO,hO,rfl,rfl⟩
 refine za 5 rfl ?_
 refine qy (l':=[zi (kind:Int),zi (entries:Int),zi (words:Int),zp ab,zp tb,zp bo,.bool false]) rfl rfl Yf rfl rfl (b:=b36) zM rfl rfl zU ?_
 refine za 7 rfl ?_
 refine qV (X:=(Nat × qe × qe × qe)) [(0,_),(8,_),(62,_)] (fun (x:(Nat × qe × qe × qe))=>[(63,zi (x.1:Int))]) (fun _=>_) (fun (x:(Nat × qe × qe × qe))=>(b36,.cells 217 7 [zi (kind:Int),zi (entries:Int),zi (words:Int),zp ab,zp tb,zp bo,.bool false])::(x.2.1++(x.2.2.1++(x.2.2.2++H)))) (fun (x:(Nat × qe × qe × qe))=>x.1≤entries∧QZ ab (qaz (2*entries) (if kind=0 then x.1 else 0)) x.2.1∧QR tb entries (XE (if kind=0 then x.1 else 0)) x.2.2.1∧ZP bo entries x.1 (XU (if kind=0 then x.1 else 0)) x.2.2.2) (fun (x:(Nat × qe × qe × qe))=>entries-x.1) (0,HA,HT,HO) ⟨Nat.zero_le _,by rw [ite_self,qgi]; exact hA,by rw [ite_self]; exact hB,by rw [ite_self]; exact hO⟩ (qc rfl (qc rfl (qc rfl (qi _)))) (qc rfl (qi _)) rfl zH ?_
 rintro ⟨k,HA1,HT1,HO1⟩ ⟨hk,hA1,hB1,hO1⟩
 dsimp only at hk hA1 hB1 hO1 ⊢
 simp only [List.cons_append,List.nil_append]
 refine za 4 rfl ?_
 refine qq (p:=(k:Int)<(entries:Int)) rfl (by simp) (fun q0=>?_) (fun q0=>?_)
 ·skip
  refine za 11 rfl ?_
  refine qq (p:=kind=0) rfl (by simp) (fun q1=>?_) (fun q1=>?_)
  ·skip
   refine za 3 rfl (Yu rfl ty3 zX (X9 zO) rfl ?_)
   refine zb (l:=zQ ⟨(k:Int),zW⟩) Ql ql5 (.cons rfl rfl rfl rfl rfl .nil) rfl rfl rfl ?_
   subst q1
   rw [if_pos rfl] at hA1 hB1 hO1
   refine qn (zc2 rfl rfl) Tryz.call149 rfl ((qcp (mb:=b36) (closed:=false) (kind:=0) (words:=words) hA1 hB1 hO1 (by omega) (by omega) (i:=k) (s:=qdk k) (c:=⟨(k:Int),zW⟩) (qez (by omega)) (by rw [JO (by omega),if_neg (Nat.lt_irrefl _)]) (by rw [Xy]; exact fun hm=>by have h9:(k:Int)<(k:Int):=(qbx.1 (List.mem_reverse.1 hm)).2; omega) (by rw [qdL]; omega) (by rw [qjD]; omega) hTab (H:=H)).hsub zH) ?_
   rintro v H' ⟨HA2,HT2,HO2,hA2,hB2,hO2,rfl,rfl⟩
   refine za 3 rfl ?_
   refine qF rfl rfl (qM (m:=((k+1:Nat):Int)) ((qW zO).trans zO)) rfl ?_
   refine za 2 rfl ?_
   refine qI (k+1,HA2,HT2,HO2) ⟨by show k+1≤entries; omega,by show QZ _ _ _; rw [if_pos rfl]; rw [← qjE]; exact hA2,by show QR _ _ _ _; rw [if_pos rfl,qgj]; exact hB2,by show ZP _ _ _ _ _; rw [if_pos rfl,← qgh]; exact hO2⟩ (by show entries-(k+1)<entries-k; omega) (qc rfl (qc rfl (qc rfl (qc rfl (qi _))))) rfl zH
  ·skip
   refine za 3 rfl ?_
   refine qF rfl rfl (qM (m:=((k+1:Nat):Int)) ((qW zO).trans zO)) rfl ?_
   refine za 2 rfl ?_
   refine qI (k+1,HA1,HT1,HO1) ⟨by show k+1≤entries; omega,by rw [if_neg q1] at hA1 ⊢; exact hA1,by rw [if_neg q1] at hB1 ⊢; exact hB1,by rw [if_neg q1] at hO1 ⊢; exact hO1.up (Nat.le_succ _)⟩ (by show entries-(k+1)<entries-k; omega) (qc rfl (qc rfl (qc rfl (qc rfl (qi _))))) rfl zH
 ·skip
  refine za 6 rfl ?_
  refine qP (H2:=(b36,.cells 217 7 [zi (kind:Int),zi (entries:Int),zi (words:Int),zp ab,zp tb,zp bo,.bool false])::(HA1++(HT1++(HO1++H)))) Tryz.results81 rfl rfl (.nil _) zH ?_
  obtain rfl:k=entries:=by omega
  exact ⟨b36,ab,tb,bo,HA1,HT1,HO1,hA1,hB1,hO1.up zO,rfl,rfl⟩
theorem qkY (hA:QZ ab L HA) (hB:QR tb entries C HT) {b2 b3:Nat} (used:List Int) :qk Tryz.prog w0 253 #[.agg (List.toArray (zQ c)),zp b2,zp b3] ((b3,.cells 40 2 (hdC h))::(b2,.cells 65 1 [zp mb])::(mb,.cells 217 7 [zi (kind:Int),zi (entries:Int),zi (words:Int),zp ab,zp tb,zp bo,.bool closed])::(HA++(HT++(HO++H)))) (fun v' H'=>∃ HA',QZ ab (if (Xm.linked (⟨kind,entries,words,closed,L,C,used⟩:Xm) h)=true then L else Qa L h JX) HA'∧v'=zi (if (Xm.linked (⟨kind,entries,words,closed,L,C,used⟩:Xm) h)=true then 21 else zA L h)∧H'=(b3,.cells 40 2 (hdC h))::(b2,.cells 65 1 [zp mb])::(mb,.cells 217 7 [zi (kind:Int),zi (entries:Int),zi (words:Int),zp ab,zp tb,zp bo,.bool closed])::(HA'++(HT++(HO++H)))):=by
 refine qd (l:=[.agg (List.toArray (zQ c)),zp b2,zp b3]) Tryz.func253 rfl Tryz.ntmps253 rfl rfl ?_
 refine zo ?_
 refine qR (l:=zQ c) rfl rfl rfl (fun b0=>?_)
 refine za 4 rfl ?_
 refine qf (v:=zp mb) rfl Ya rfl (qh.own (b:=b2) zM rfl) rfl ?_
 refine qK (vs:=hdC h) rfl qO rfl (b:=b3) zM rfl rfl rfl ?_
 refine qB (zc2 rfl rfl) Tryz.call254 rfl (qjU hA hB (h:=h) used (HO:=HO) (closed:=closed) (kind:=kind) (words:=words) (fun p hp=>by repeat (first | exact qdl p hp | apply List.mem_cons_of_mem))) ?_
 refine qs ?_
 refine qq (p:=(Xm.linked (⟨kind,entries,words,closed,L,C,used⟩:Xm) h)=true) rfl (by simp) (fun c0=>?_) (fun c0=>?_)
 ·skip
  refine za 3 rfl ?_
  refine qj (H2:=(b3,.cells 40 2 (hdC h))::(b2,.cells 65 1 [zp mb])::(mb,.cells 217 7 [zi (kind:Int),zi (entries:Int),zi (words:Int),zp ab,zp tb,zp bo,.bool closed])::(HA++(HT++(HO++H)))) Tryz.results253 rfl (.nil _) zH ?_
  exact ⟨HA,by rw [if_pos c0]; exact hA,by rw [if_pos c0],rfl⟩
 ·skip
  refine za 2 rfl ?_
  refine zy [(b3,.cells 40 2 (hdC h)),(b2,.cells 65 1 [zp mb]),(mb,.cells 217 7 [zi (kind:Int),zi (entries:Int),zi (words:Int),zp ab,zp tb,zp bo,.bool closed])] zk ?_
  refine qm 0 rfl zK zK zK rfl rfl (ql (v:=zp mb) rfl Ya rfl (qh.own (b:=b2) zM rfl)) rfl ?_
  refine zw [1,2] rfl rfl ?_
  refine qm 3 rfl zK zK zK rfl rfl (ql (v:=zp ab) rfl Z6 rfl (qh.own (b:=mb) zM rfl)) rfl ?_
  refine qm 4 rfl zK zK zK rfl rfl (Qf (vs:=hdC h) rfl qO rfl (b:=b3) zM rfl rfl) rfl ?_
  refine qJ 5 zH zK rfl rfl ?_
  refine qv (l:=hdC h) qgL qO (.cons rfl rfl rfl rfl rfl .nil) rfl rfl rfl rfl rfl rfl rfl (fun b13=>?_)
  refine qs (WC_goal ?_)
  refine qJ 6 zH zK rfl rfl ?_
  refine qn (zc2 rfl rfl) Tryz.call255 rfl ((hA.free (h:=h) (cap:=1) (Holds.own (b:=b13) zM) (H:=(b13,.cells 40 (1*2) (hdC h))::(b0,.cells 220 5 (zQ c))::(b3,.cells 40 2 (hdC h))::(b2,.cells 65 1 [zp mb])::(mb,.cells 217 7 [zi (kind:Int),zi (entries:Int),zi (words:Int),zp ab,zp tb,zp bo,.bool closed])::(HT++(HO++H)))).hsub zH) ?_
  rintro v' H' ⟨HA2,hA2,rfl,rfl⟩
  refine qs (WC_goal (zw [7] rfl rfl (WC_done zH zK ?_)))
  refine qj (H2:=(b3,.cells 40 2 (hdC h))::(b2,.cells 65 1 [zp mb])::(mb,.cells 217 7 [zi (kind:Int),zi (entries:Int),zi (words:Int),zp ab,zp tb,zp bo,.bool closed])::(HA2++(HT++(HO++H)))) Tryz.results253 rfl (.nil _) zH ?_
  exact ⟨HA2,by rw [if_neg c0]; exact hA2,by rw [if_neg c0],rfl⟩
theorem qlM (hA:QZ ab L HA) (hB:QR tb entries C HT) (used:List Int) :qk Tryz.prog w0 159 #[zp mb,.agg (List.toArray (hdC h))] ((mb,.cells 217 7 [zi (kind:Int),zi (entries:Int),zi (words:Int),zp ab,zp tb,zp bo,.bool closed])::(HA++(HT++(HO++H)))) (fun v' H'=>∃ HA',QZ ab (Xm.free (⟨kind,entries,words,closed,L,C,used⟩:Xm) h).1.L HA'∧v'=zi (Xm.free (⟨kind,entries,words,closed,L,C,used⟩:Xm) h).2∧H'=(mb,.cells 217 7 [zi (kind:Int),zi (entries:Int),zi (words:Int),zp ab,zp tb,zp bo,.bool closed])::(HA'++(HT++(HO++H)))):=by
 refine qd (l:=[zp mb,.agg (List.toArray (hdC h))]) Tryz.func159 rfl Tryz.ntmps159 rfl rfl ?_
 by_cases he:zA L h=0
 ·skip
  refine zo ?_
  refine qR (l:=[zp mb]) rfl rfl rfl (fun b2=>?_)
  refine qR (l:=hdC h) rfl rfl rfl (fun b3=>?_)
  refine za 3 rfl ?_
  refine qf (v:=zp mb) rfl Ya rfl (qh.own (b:=b2) zM rfl) rfl ?_
  refine qK (vs:=hdC h) rfl qO rfl (b:=b3) zM rfl rfl rfl ?_
  refine qL .nil (.cons rfl (.cons rfl .nil)) rfl ?_
  refine qn (zc3 rfl rfl rfl) Tryz.call152 rfl (qaN (ca:=[zp b2,zp b3]) hA hB (HO:=HO) (closed:=closed) (kind:=kind) (words:=words) Tryz.call253 he (fun p hp=>by repeat (first | exact qdl p hp | apply List.mem_cons_of_mem)) (qkY (c:=Zz L h) (h:=h) hA hB used (H:=H))) ?_
  rintro v' H' ⟨HA2,hA2,rfl,rfl⟩
  refine za 2 rfl ?_
  refine qj (H2:=(mb,.cells 217 7 [zi (kind:Int),zi (entries:Int),zi (words:Int),zp ab,zp tb,zp bo,.bool closed])::(HA2++(HT++(HO++H)))) Tryz.results159 rfl (.nil _) zH ?_
  have hn:¬ (zA L h≠0):=fun h=>h he
  by_cases hl:(Xm.linked (⟨kind,entries,words,closed,L,C,used⟩:Xm) h)=true
  ·have e:(Xm.free (⟨kind,entries,words,closed,L,C,used⟩:Xm) h)=((⟨kind,entries,words,closed,L,C,used⟩:Xm),21):=by unfold Xm.free; dsimp only; rw [if_neg hn,if_pos hl]
   rw [e]
   rw [if_pos hl] at hA2
   exact ⟨HA2,hA2,by rw [if_pos hl],rfl⟩
  ·have e:(Xm.free (⟨kind,entries,words,closed,L,C,used⟩:Xm) h)=({ (⟨kind,entries,words,closed,L,C,used⟩:Xm) with L:=Qa L h JX },0):=by unfold Xm.free; dsimp only; rw [if_neg hn,if_neg hl]
   rw [e]
   rw [if_neg hl] at hA2
   exact ⟨HA2,hA2,by rw [if_neg hl,he],rfl⟩
 ·skip
  refine zo ?_
  refine qR (l:=[zp mb]) rfl rfl rfl (fun b2=>?_)
  refine qR (l:=hdC h) rfl rfl rfl (fun b3=>?_)
  refine za 3 rfl ?_
  refine qf (v:=zp mb) rfl Ya rfl (qh.own (b:=b2) zM rfl) rfl ?_
  refine qK (vs:=hdC h) rfl qO rfl (b:=b3) zM rfl rfl rfl ?_
  refine qL .nil (.cons rfl (.cons rfl .nil)) rfl ?_
  refine qB (zc3 rfl rfl rfl) Tryz.call152 rfl (qb8 (ca:=[zp b2,zp b3]) hA hB he (HO:=HO) (closed:=closed) (kind:=kind) (words:=words) (fun p hp=>by repeat (first | exact qdl p hp | apply List.mem_cons_of_mem))) ?_
  refine za 2 rfl ?_
  refine qj (H2:=(mb,.cells 217 7 [zi (kind:Int),zi (entries:Int),zi (words:Int),zp ab,zp tb,zp bo,.bool closed])::(HA++(HT++(HO++H)))) Tryz.results159 rfl (.nil _) zH ?_
  exact ⟨HA,by unfold Xm.free; rw [if_pos he]; exact hA,by unfold Xm.free; rw [if_pos he],rfl⟩
theorem Xm.Ok.del (h:x.Ok) (k:Int):(x.del k).1.Ok:=by
 unfold Xm.del
 split
 ·exact h
 ·split
  ·exact h.unlink k
  ·exact h
theorem Xm.put_len (h:x.Ok) {o:Int} (ho:o∈x.used):(x.unlink o).1.C.length+1=x.C.length:=KD h.nd (h.umem.1 ho)
theorem Xm.Ok.oldest (h:x.Ok) (hc:x.C.length=x.entries):x.used.headD 0∈x.used:=by
 have h1:=h.ulen
 have h2:=h.ent
 cases hu:x.used with
 | nil=>rw [hu] at h1; simp at h1; omega
 | cons a l=>exact List.mem_cons_self
theorem Xm.Ok.put (h:x.Ok) (how:Int) (ws:List Int) (hk:0≤k∧k<18446744073709551616):(x.put how k ws).1.Ok:=by
 unfold Xm.put
 split
 ·exact h
 ·split
  ·exact h
  ·split
   ·rename_i g hf
    split
    ·exact h
    ·obtain ⟨i,s,h1,h2,h3,h4,h5⟩:=h.own hf
     have:=(h.use (h.umem.2 (Ku hf))).cel g (fun _=>⟨k,W4.of ws⟩) (fun c _ hc=>by
      subst hc
      show k=(Zz x.L g).key
      obtain ⟨i',s',a1,a2,a3,a4,a5,a6⟩:=JN (h.err0 hf)
      obtain rfl:i=i':=by omega
      obtain rfl:s=s':=Option.some.inj (h2.symm.trans a2)
      rw [a5,h5])
     exact this
   ·rename_i hf
    have hno:=Xw.1 hf
    split
    ·exact h
    ·rename_i hr
     obtain ⟨i,s,hfi,hs⟩:=Xm.free_slot (Classical.not_not.1 hr)
     split
     ·rename_i hfull
      have ho:=h.oldest hfull
      refine (h.unlink _).link (i:=i) (s:=s) hfi hs ?_ ?_ hk
      ·show k ∉ QX (Zh x.C _)
       rw [qba]
       exact fun hm=>hno (List.mem_filter.1 hm).1
      ·have:=Xm.put_len h ho
       show (x.unlink (x.used.headD 0)).1.C.length<x.entries
       omega
     ·exact h.link hfi hs hno (by have:=h.le; omega) hk
theorem qmF (h1:kind≤2) (h2:1≤entries∧entries≤8) (h3:1≤words∧words≤4):(Xm.new kind entries words).Ok:=by
 unfold Xm.new
 exact qm3 h1 h2 h3 (by split <;> omega)
inductive XmH (mb T:Nat) (x:Xm):qe→Prop
 | mk {ab tb bo:Nat} {HA HT HO:qe} (hA:QZ ab x.L HA) (hB:QR tb x.entries x.C HT) (hO:ZP bo x.entries T x.used HO) (hx:x.Ok):XmH mb T x ((mb,.cells 217 7 [.int .i64 (x.kind:Int),.int .i64 (x.entries:Int),.int .i64 (x.words:Int),zp ab,zp tb,zp bo,.bool x.closed])::(HA++(HT++HO)))
theorem XmH.ok {HX:qe} (h:XmH mb T x HX):x.Ok:=by cases h; assumption
theorem XmH.up {T':Nat} {HX:qe} (h:XmH mb T x HX) (hl:T≤T'):XmH mb T' x HX:=by
 cases h with
 | mk hA hB hO hx=>exact .mk hA hB (hO.up hl) hx
section
variable {w0:World} {H HX:qe} {mb T:Nat} {x:Xm}
theorem XmH.find (hX:XmH mb T x HX) (hTl:T≤1000000) :qk Tryz.prog w0 64 #[zp mb,zu k] (HX++H) (fun v H'=>∃ HX',XmH mb (T+1) (x.find k).1 HX'∧v=.tuple #[.agg (List.toArray (hdC (x.find k).2.1)),zi (x.find k).2.2]∧H'=HX'++H):=by
 obtain ⟨kind,entries,words,closed,L,C,used⟩:=x
 cases hX with
 | @mk ab tb bo HA HT HO hA hB hO hx =>
  show qk _ _ _ _ ((mb,.cells 217 7 [zi (kind:Int),zi (entries:Int),zi (words:Int),zp ab,zp tb,zp bo,.bool closed])::((HA++(HT++HO))++H)) _
  rw [List.append_assoc,List.append_assoc]
  refine (qlN (H:=H) (HA:=HA) (closed:=closed) (kind:=kind) (words:=words) hB hO hTl (k:=k) (fun h=>hx.umem.2 h)).mono ?_
  rintro v H' ⟨HO2,hO2,rfl,rfl⟩
  cases hf:Qz C k with
  | none =>
   rw [hf] at hO2
   have e:Xm.find ⟨kind,entries,words,closed,L,C,used⟩ k=(⟨kind,entries,words,closed,L,C,used⟩,zHd,4):=by unfold Xm.find; dsimp only; rw [hf]
   rw [e]
   exact ⟨_,.mk hA hB hO2 hx,rfl,by show _=(mb,.cells 217 7 [zi (kind:Int),zi (entries:Int),zi (words:Int),zp ab,zp tb,zp bo,.bool closed])::((HA++(HT++HO2))++H); rw [List.append_assoc,List.append_assoc]⟩
  | some g =>
   rw [hf] at hO2
   have e:Xm.find ⟨kind,entries,words,closed,L,C,used⟩ k=(Xm.use ⟨kind,entries,words,closed,L,C,used⟩ k,g,0):=by unfold Xm.find; dsimp only; rw [hf]
   rw [e]
   exact ⟨_,.mk hA hB hO2 (hx.use (hx.umem.2 (Ku hf))),rfl,by show _=(mb,.cells 217 7 [zi (kind:Int),zi (entries:Int),zi (words:Int),zp ab,zp tb,zp bo,.bool closed])::((HA++(HT++HO2))++H); rw [List.append_assoc,List.append_assoc]⟩
theorem qhe (x:Xm) (how k:Int) (ws:List Int):(x.put how k ws).1.kind=x.kind∧(x.put how k ws).1.entries=x.entries∧(x.put how k ws).1.words=x.words∧(x.put how k ws).1.closed=x.closed:=by
 have hl:∀ (y:Xm) c,(y.link c).1.kind=y.kind∧(y.link c).1.entries=y.entries∧(y.link c).1.words=y.words∧(y.link c).1.closed=y.closed:=fun y c=>by
  unfold Xm.link
  split
  ·split <;> exact ⟨rfl,rfl,rfl,rfl⟩
  ·exact ⟨rfl,rfl,rfl,rfl⟩
 unfold Xm.put
 split
 ·exact ⟨rfl,rfl,rfl,rfl⟩
 ·split
  ·exact ⟨rfl,rfl,rfl,rfl⟩
  ·split
   ·split <;> exact ⟨rfl,rfl,rfl,rfl⟩
   ·split
    ·exact ⟨rfl,rfl,rfl,rfl⟩
    ·split
     ·exact hl _ _
     ·exact hl _ _
theorem qjf (x:Xm) (k:Int):(x.del k).1.kind=x.kind∧(x.del k).1.entries=x.entries∧(x.del k).1.words=x.words∧(x.del k).1.closed=x.closed∧(x.del k).1.L=x.L:=by
 unfold Xm.del
 split
 ·exact ⟨rfl,rfl,rfl,rfl,rfl⟩
 ·split <;> exact ⟨rfl,rfl,rfl,rfl,rfl⟩
theorem qfX (x:Xm) (h:Hd):(x.free h).1.kind=x.kind∧(x.free h).1.entries=x.entries∧(x.free h).1.words=x.words∧(x.free h).1.closed=x.closed∧(x.free h).1.C=x.C∧(x.free h).1.used=x.used:=by
 unfold Xm.free
 split
 ·exact ⟨rfl,rfl,rfl,rfl,rfl,rfl⟩
 ·split <;> exact ⟨rfl,rfl,rfl,rfl,rfl,rfl⟩
theorem XmH.of {y:Xm} (hk:y.kind=x.kind∧y.entries=x.entries∧y.words=x.words) (hA:QZ ab y.L HA) (hB:QR tb x.entries y.C HT) (hO:ZP bo x.entries T y.used HO) (hx:y.Ok):XmH mb T y ((mb,.cells 217 7 [zi (x.kind:Int),zi (x.entries:Int),zi (x.words:Int),zp ab,zp tb,zp bo,.bool y.closed])::(HA++(HT++HO))):=by
 rw [← hk.1,← hk.2.1,← hk.2.2]
 exact .mk hA (by rw [hk.2.1]; exact hB) (by rw [hk.2.1]; exact hO) hx
theorem XmH.put (hX:XmH mb T x HX) (hTab:Tab w0) (hTl:T≤1000000) {ws:List Int} (hk:0≤k∧k<18446744073709551616) (hrow:Holds w0 H ad (ws.map (Value.int .u64))):qk Tryz.prog w0 61 #[zp mb,zi how,zu k,.slice ad ws.length cap] (HX++H) (fun v H'=>∃ HX',XmH mb (T+2) (Xm.put x how k ws).1 HX'∧v=.tuple #[.agg (List.toArray (z7 (Xm.put x how k ws).2.1)),zi (Xm.put x how k ws).2.2]∧H'=HX'++H):=by
 obtain ⟨kind,entries,words,closed,L,C,used⟩:=x
 cases hX with
 | @mk ab tb bo HA HT HO hA hB hO hx =>
  show qk _ _ _ _ ((mb,.cells 217 7 [zi (kind:Int),zi (entries:Int),zi (words:Int),zp ab,zp tb,zp bo,.bool closed])::((HA++(HT++HO))++H)) _
  rw [List.append_assoc,List.append_assoc]
  refine (qlK (H:=H) hA hB hO hTl hx (how:=how) (k:=k) (cap:=cap) hrow hTab).mono ?_
  rintro v H' ⟨HA2,HT2,HO2,hA2,hB2,hO2,rfl,rfl⟩
  have hk':=qhe ⟨kind,entries,words,closed,L,C,used⟩ how k ws
  refine ⟨_,XmH.of (x:=⟨kind,entries,words,closed,L,C,used⟩) ⟨hk'.1,hk'.2.1,hk'.2.2.1⟩ hA2 hB2 hO2 (hx.put how ws hk),rfl,?_⟩
  rw [show ((Xm.put ⟨kind,entries,words,closed,L,C,used⟩ how k ws)).1.closed=closed from hk'.2.2.2]
  show _=(mb,.cells 217 7 [zi (kind:Int),zi (entries:Int),zi (words:Int),zp ab,zp tb,zp bo,.bool closed])::((HA2++(HT2++HO2))++H)
  rw [List.append_assoc,List.append_assoc]
theorem XmH.del (hX:XmH mb T x HX) :qk Tryz.prog w0 68 #[zp mb,zu k] (HX++H) (fun v H'=>∃ HX',XmH mb T (Xm.del x k).1 HX'∧v=.tuple #[.agg (List.toArray (hdC (Xm.del x k).2.1)),zi (Xm.del x k).2.2]∧H'=HX'++H):=by
 obtain ⟨kind,entries,words,closed,L,C,used⟩:=x
 cases hX with
 | @mk ab tb bo HA HT HO hA hB hO hx =>
  show qk _ _ _ _ ((mb,.cells 217 7 [zi (kind:Int),zi (entries:Int),zi (words:Int),zp ab,zp tb,zp bo,.bool closed])::((HA++(HT++HO))++H)) _
  rw [List.append_assoc,List.append_assoc]
  refine (qnt (H:=H) (HA:=HA) (L:=L) (closed:=closed) (words:=words) hB hO (k:=k)).mono ?_
  rintro v H' ⟨HT2,HO2,hB2,hO2,rfl,rfl⟩
  have hk':=qjf ⟨kind,entries,words,closed,L,C,used⟩ k
  refine ⟨_,XmH.of (x:=⟨kind,entries,words,closed,L,C,used⟩) ⟨hk'.1,hk'.2.1,hk'.2.2.1⟩ (by rw [hk'.2.2.2.2]; exact hA) hB2 hO2 (hx.del k),rfl,?_⟩
  rw [show ((Xm.del ⟨kind,entries,words,closed,L,C,used⟩ k)).1.closed=closed from hk'.2.2.2.1]
  show _=(mb,.cells 217 7 [zi (kind:Int),zi (entries:Int),zi (words:Int),zp ab,zp tb,zp bo,.bool closed])::((HA++(HT2++HO2))++H)
  rw [List.append_assoc,List.append_assoc]
theorem XmH.free (hX:XmH mb T x HX) :qk Tryz.prog w0 159 #[zp mb,.agg (List.toArray (hdC h))] (HX++H) (fun v H'=>∃ HX',XmH mb T (Xm.free x h).1 HX'∧v=zi (Xm.free x h).2∧H'=HX'++H):=by
 obtain ⟨kind,entries,words,closed,L,C,used⟩:=x
 cases hX with
 | @mk ab tb bo HA HT HO hA hB hO hx =>
  show qk _ _ _ _ ((mb,.cells 217 7 [zi (kind:Int),zi (entries:Int),zi (words:Int),zp ab,zp tb,zp bo,.bool closed])::((HA++(HT++HO))++H)) _
  rw [List.append_assoc,List.append_assoc]
  refine (qlM (H:=H) (HO:=HO) (closed:=closed) (kind:=kind) (words:=words) hA hB (h:=h) used).mono ?_
  rintro v H' ⟨HA2,hA2,rfl,rfl⟩
  have hk':=qfX ⟨kind,entries,words,closed,L,C,used⟩ h
  refine ⟨_,XmH.of (x:=⟨kind,entries,words,closed,L,C,used⟩) ⟨hk'.1,hk'.2.1,hk'.2.2.1⟩ hA2 (by rw [hk'.2.2.2.2.1]; exact hB) (by rw [hk'.2.2.2.2.2]; exact hO) (hx.free h),rfl,?_⟩
  rw [show ((Xm.free ⟨kind,entries,words,closed,L,C,used⟩ h)).1.closed=closed from hk'.2.2.2.1]
  show _=(mb,.cells 217 7 [zi (kind:Int),zi (entries:Int),zi (words:Int),zp ab,zp tb,zp bo,.bool closed])::((HA2++(HT++HO))++H)
  rw [List.append_assoc,List.append_assoc]
theorem XmH.key (hX:XmH mb T x HX) (hm:∀ p∈HX,p∈H) :qG Tryz.prog w0 H 66 [zp mb,.agg (List.toArray (hdC h))] (.tuple #[zu (x.key h).1,zi (x.key h).2]):=by
 obtain ⟨kind,entries,words,closed,L,C,used⟩:=x
 cases hX with
 | @mk ab tb bo HA HT HO hA hB hO hx=>exact Key_q (h:=h) hA hB hm
theorem XmH.held (hX:XmH mb T x HX) (hm:∀ p∈HX,p∈H):qG Tryz.prog w0 H 43 [zp mb] (zi ((XT 1 x.L:Nat):Int)):=by
 obtain ⟨kind,entries,words,closed,L,C,used⟩:=x
 cases hX with
 | @mk ab tb bo HA HT HO hA hB hO hx=>exact qlL hA hB hm
end
theorem XmH.new (hTab:Tab w0) (h1:kind≤2) (h2:1≤entries∧entries≤8) (h3:1≤words∧words≤4):qk Tryz.prog w0 81 #[zi (kind:Int),zi (entries:Int),zi (words:Int)] (H) (fun v H'=>∃ mb HX,XmH mb 8 (Xm.new kind entries words) HX∧v=.tuple #[zp mb,zi 0]∧H'=HX++H):=by
 refine (qnk (H:=H) h1 h2 h3 hTab).mono ?_
 rintro v H' ⟨mb,ab,tb,bo,HA,HT,HO,hA,hB,hO,rfl,rfl⟩
 refine ⟨mb,_,.mk (x:=Xm.new kind entries words) hA hB hO (qmF h1 h2 h3),rfl,?_⟩
 show _=(mb,.cells 217 7 [zi (kind:Int),zi (entries:Int),zi (words:Int),zp ab,zp tb,zp bo,.bool false])::((HA++(HT++HO))++H)
 rw [List.append_assoc,List.append_assoc]
end Go.Proofs.YtincjohoncljoaaGreatDoor
