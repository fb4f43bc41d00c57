/-
  Own work: contracts of functions that the statement reaches, and plain facts on what they compute; each theorem says its conditions.
-/
import Derived.Test.YtincjohoncljoaaGreatDoorLqT9
import Derived.Test.YtincjohoncljoaaGreatDoorLqS3
import Derived.Test.YtincjohoncljoaaGreatDoorLqS2
import Derived.Test.YtincjohoncljoaaGreatDoorLqT5
import Derived.Test.YtincjohoncljoaaGreatDoorLqS1
import Derived.Lib.LaidTab
import Derived.Lib.LaidIn
import Derived.Stop.LaidErr
import Derived.Test.YtincjohoncljoaaGreatDoorCards
import Derived.Test.YtincjohoncljoaaGreatDoorTie
import Derived.Test.YtincjohoncljoaaGreatDoorLqT4
import Derived.Test.YtincjohoncljoaaGreatDoorLqT6
import Derived.Test.YtincjohoncljoaaGreatDoorLqA
set_option linter.all false
set_option linter.unusedSimpArgs false
set_option linter.unusedVariables false
set_option maxHeartbeats 16000000
namespace Go.Proofs.YtincjohoncljoaaGreatDoor
open Go Go.Sl
variable {F:Lf}
attribute [local irreducible] W
attribute [local irreducible] QI
def QY (F:Lf) (l:List Int):Lf:=l.foldl (fun F z=>{ F with cl:=Zj F.cl F.n z.toNat }) F
def Xj (F:Lf) (l:List Int):Lf × List Gn:=l.foldl (fun s z=>((QI s.1 z.toNat).1,s.2++(QI s.1 z.toNat).2)) (F,[])
def qav (ms0:List (Option (Xm × Bool))) (s:List (Option (Xm × Bool)) × List Gn) (k:Nat):List (Option (Xm × Bool)) × List Gn:=match ms0[k]? with
 | some (some (x,true))=>if K3 1 x.L=0 then (s.1.set k none,s.2++[⟨(k:Int),0,0,true⟩]) else s
 | _=>s
def qbt (ms0:List (Option (Xm × Bool))) (out:List Gn):Nat→List (Option (Xm × Bool)) × List Gn
 | 0=>(ms0,out)
 | k+1=>qav ms0 (qbt ms0 out k) k
def Jv (F:Lf):Lf × List Gn :=
 let F2:=QY { F with tr:=(zY F.tr).1 } (zY F.tr).2
 let r:=Xj { F2 with cl:=(zY F2.cl).1 } (zY F2.cl).2
 ({ r.1 with ms:=(qbt r.1.ms r.2 4).1 },(qbt r.1.ms r.2 4).2)
theorem qid {l:List Int} {i:Nat} {z:Int} (h:l[i]?=some z):QY F (l.take (i+1))={ QY F (l.take i) with cl:=Zj (QY F (l.take i)).cl (QY F (l.take i)).n z.toNat }:=by
 unfold QY; rw [Jt h,List.foldl_append]; rfl
theorem qeZ {l:List Int} {i:Nat} {z:Int} (h:l[i]?=some z):Xj F (l.take (i+1))=((QI (Xj F (l.take i)).1 z.toNat).1,(Xj F (l.take i)).2++(QI (Xj F (l.take i)).1 z.toNat).2):=by
 unfold Xj; rw [Jt h,List.foldl_append]; rfl
theorem qe0 (F:Lf) (z:Nat):(QI F z).2.length≤1:=by
 unfold QI; split
 ·exact Nat.zero_le _
 ·split
  ·exact Nat.zero_le _
  ·exact Nat.le_refl 1
theorem qj3 {z:Nat} (hz:z<64) (hl:F.ms.length=4) (m:Int):(JC (QI F z).1 m).isSome=(JC F m).isSome∧(QI F z).1.ms.length=4:=by
 unfold QI
 split
 ·exact ⟨rfl,hl⟩
 ·split
  ·exact ⟨rfl,hl⟩
  ·rename_i x b hm
   refine ⟨?_,by show (F.ms.set _ _).length=4; rw [List.length_set]; exact hl⟩
   unfold JC
   by_cases c:0≤m∧m<4
   ·rw [if_pos c,if_pos c]
    show (((F.ms.set (z/16) _)[m.toNat]?).getD none).isSome=_
    by_cases e:z/16=m.toNat
    ·rw [e,List.getElem?_set_self (by omega)]
     unfold JC at hm
     rw [if_pos (by omega),Int.toNat_natCast,e] at hm
     rw [hm]; rfl
    ·rw [List.getElem?_set_ne e]
   ·rw [if_neg c,if_neg c]
theorem qa7 {F:Lf} {l:List Int} (hl:F.ms.length=4) (hz:∀ z∈l,0≤z∧z<64) (m:Int):∀ i:Nat,(JC (Xj F (l.take i)).1 m).isSome=(JC F m).isSome∧(Xj F (l.take i)).1.ms.length=4∧(Xj F (l.take i)).2.length≤i
 | 0=>⟨rfl,hl,Nat.le_refl 0⟩
 | i+1=>by
  obtain ⟨h1,h2,h3⟩:=qa7 hl hz m i
  cases hc:l[i]? with
  | none =>
   have:l.take (i+1)=l.take i:=by rw [List.take_add_one,hc]; simp
   rw [this]; exact ⟨h1,h2,by omega⟩
  | some z =>
   rw [qeZ hc]
   have hr:=hz z (List.mem_of_getElem? hc)
   obtain ⟨e1,e2⟩:=qj3 (F:=(Xj F (l.take i)).1) (z:=z.toNat) zO h2 m
   refine ⟨e1.trans h1,e2,?_⟩
   have:=qe0 (Xj F (l.take i)).1 z.toNat
   rw [List.length_append]; omega
theorem qfb (F:Lf) (l:List Int):(QY F l).n=F.n∧(QY F l).ms=F.ms∧(QY F l).cl.began=F.cl.began:=by
 unfold QY
 induction l generalizing F with
 | nil=>exact ⟨rfl,rfl,rfl⟩
 | cons z l ih =>
  rw [List.foldl_cons]
  obtain ⟨h1,h2,h3⟩:=ih { F with cl:=Zj F.cl F.n z.toNat }
  refine ⟨h1,h2,h3.trans ?_⟩
  show (Zj F.cl F.n z.toNat).began=_
  unfold Zj; split <;> rfl
theorem qpD {n:Nat} {M:List (Option Nat × Bool)} {tb wb g1 g2 rb db:Nat} (h:M.length=4):((qu n M tb wb g1 g2 rb db).drop 1).take 8=M.flatMap mcC:=by
 unfold qu
 rw [List.drop_succ_cons,List.drop_zero,List.take_append_of_le_length (by rw [zt Jd,h]; decide),List.take_of_length_le (by rw [zt Jd,h]; decide)]
theorem qV.poll {w0:World} {H:qg} {HF0:qg} {lb T:Nat} {F0:Lf} (hF0:qV lb T F0 HF0) (hb1:F0.tr.began<1000000000) (hb2:F0.cl.began<1000000000) (hid1:∀ z∈(zY F0.tr).2,0≤z∧z<64) (hid2:∀ z∈(zY (QY { F0 with tr:=(zY F0.tr).1 } (zY F0.tr).2).cl).2,(0≤z∧z<64)∧(JC F0 (z/16)).isSome=true) (hT0:Tab w0):qh Tryz.prog w0 18 #[zp lb] (HF0++H) (fun v H'=>∃ HF' XG,qV lb T (Jv F0).1 HF'∧zm 50 4 v (Jv F0).2.length ((Jv F0).2.flatMap gnC) XG∧H'=XG++(HF'++H)):=by
 refine qc (l:=[zp lb]) Tryz.func18 rfl Tryz.ntmps18 rfl rfl ?_
 refine za 6 rfl ?_
 refine W_x (qr rfl rfl KR) (fun _ h=>by cases h) rfl ?_
 refine za 8 rfl ?_
 cases hF0 with
 | @mk tb wb g1 g2 rb db M HT HW H1 H2 HR HD HM hT hO hW h1 o1 h2 o2 hR hU hD hM =>
 refine qO (H':=(lb,.cells 134 15 (qu F0.n M tb wb g1 g2 rb db))::(HT++(HW++(H1++(H2++(HR++(HD++(HM.flatten++H)))))))) (by simp only [List.cons_append,List.append_assoc,List.nil_append]; first | exact YF | (repeat (first | with_reducible exact qC.refl _ | refine qC.cons zT ?_ | refine qC.app zS ?_ | exact qC.nil _ | exact qC.refl _ | refine qC.drop ?_ | refine qC.dropS ?_))) ?_
 refine za 3 rfl ?_
 refine qe (v:=zp g1) rfl qaS rfl (qf.own (b:=lb) zM (Qf (j:=2) hM.m4)) rfl ?_
 have htl:=qac h1
 obtain ⟨ids1,eI1⟩:∃ ids1,ids1=(zY F0.tr).2:=⟨_,rfl⟩
 have hil1:ids1.length≤64*F0.n:=by rw [eI1]; exact htl
 have o12:JE F0.n (zY F0.tr).1:=o1.look.begin (by rw [qa2]; exact hb1)
 have hn64:=o1.n
 refine qk (zc1 rfl) Tryz.call69 rfl ((h1.poll o1 hb1 hT0 (H:=(lb,.cells 134 15 (qu F0.n M tb wb g1 g2 rb db))::(HT++(HW++(H2++(HR++(HD++(HM.flatten++H)))))))).hsub zH) ?_
 rintro v H' ⟨H12,XO1,h12,hO1,rfl⟩
 rw [← eI1] at hO1
 obtain ⟨ad1,cap1,rfl,hc1,hc2⟩:=hO1.shape
 have hrow1:∀ {H:qg},(∀ p∈XO1,p∈H)→Holds w0 H ad1 (ids1.map (Value.int .i64)):=fun hs=>zm.toHolds hO1 hs
 obtain ⟨F1,eF1⟩:∃ F1,F1=({ F0 with tr:=(zY F0.tr).1 }:Lf):=⟨_,rfl⟩
 have hF1:qV lb T F1 ((lb,.cells 134 15 (qu F0.n M tb wb g1 g2 rb db))::(HT++(HW++(H12++(H2++(HR++(HD++HM.flatten))))))):=by rw [eF1]; exact .mk (F:={ F0 with tr:=(zY F0.tr).1 }) hT hO hW h12 o12 h2 o2 hR hU hD hM
 refine qO (H':=XO1++(((lb,.cells 134 15 (qu F0.n M tb wb g1 g2 rb db))::(HT++(HW++(H12++(H2++(HR++(HD++HM.flatten)))))))++H)) (by simp only [List.cons_append,List.append_assoc,List.nil_append]; first | exact YF | (repeat (first | with_reducible exact qC.refl _ | refine qC.cons zT ?_ | refine qC.app zS ?_ | exact qC.nil _ | exact qC.refl _ | refine qC.drop ?_ | refine qC.dropS ?_))) ?_
 generalize ((lb,.cells 134 15 (qu F0.n M tb wb g1 g2 rb db))::(HT++(HW++(H12++(H2++(HR++(HD++HM.flatten)))))))=HF1 at hF1 ⊢
 clear hT hO hW h1 o1 h2 o2 hR hU hD hM h12 o12
 refine zZ rfl qZ rfl rfl (za 3 rfl ?_)
 refine qU (X:=(Nat × Lf × qg)) [(0,_),(3,_),(16,_),(17,_)] (fun (z:(Nat × Lf × qg))=>[(18,zi (z.1:Int))]) (fun _=>_) (fun (z:(Nat × Lf × qg))=>XO1++(z.2.2++H)) (fun (z:(Nat × Lf × qg))=>z.1≤ids1.length∧qV lb T z.2.1 z.2.2∧z.2.1=QY F1 (ids1.take z.1)) (fun (z:(Nat × Lf × qg))=>ids1.length-z.1) (0,F1,HF1) ⟨Nat.zero_le _,hF1,rfl⟩ (qa rfl (qa rfl (qa rfl (qa rfl (qi _))))) (qa rfl (qi _)) rfl (.refl _) ?_
 rintro ⟨i,F,HF⟩ ⟨hi,hF,eF⟩
 dsimp only at hi hF eF ⊢
 simp only [List.cons_append,List.nil_append]
 refine za 4 rfl ?_
 refine qm (p:=(i:Int)<(ids1.length:Int)) rfl (by simp) (fun q0=>?_) (fun q0=>?_)
 ·skip
  refine za 4 rfl ?_
  obtain ⟨z,hz⟩:∃ z,ids1[i]?=some z:=⟨_,List.getElem?_eq_getElem zO⟩
  have hzr:=hid1 z (by rw [← eI1]; exact List.mem_of_getElem? hz)
  obtain ⟨zn,rfl⟩:∃ zn:Nat,z=(zn:Int):=⟨z.toNat,by omega⟩
  obtain ⟨qz,pz,rfl,hcz⟩:=(hrow1 (H:=XO1++(HF++H)) (fun p hp=>List.mem_append_left _ hp)).at (i:=i) (v:=.int .i64 (zn:Int)) (by rw [List.getElem?_map,hz]; rfl)
  refine qS (j:=i) rfl rfl qZ ty3 rfl zO rfl rfl ?_
  refine qe (v:=zi (zn:Int)) rfl ty3 rfl (by rw [Nat.mul_one]; exact hcz) rfl ?_
  refine za 2 rfl ?_
  cases hF with
  | @mk tb wb g1 g2 rb db M HT HW H1 H2 HR HD HM hT hO hW h1 o1 h2 o2 hR hU hD hM =>
  refine qO (H':=XO1++((lb,.cells 134 15 (qu F.n M tb wb g1 g2 rb db))::(HT++(HW++(H1++(H2++(HR++(HD++(HM.flatten++H))))))))) (by simp only [List.cons_append,List.append_assoc,List.nil_append]; first | exact YF | (repeat (first | with_reducible exact qC.refl _ | refine qC.cons zT ?_ | refine qC.app zS ?_ | exact qC.nil _ | exact qC.refl _ | refine qC.drop ?_ | refine qC.dropS ?_))) ?_
  refine W_anyC [(lb,.cells 134 15 (qu F.n M tb wb g1 g2 rb db))] zk ?_
  refine zw [0,1,2] rfl rfl ?_
  refine WC_take 3 rfl zK zK zK rfl rfl (qj (v:=zp g2) rfl qaS rfl (qf.own (b:=lb) zM (Qf (j:=3) hM.m4))) rfl ?_
  refine zw [4,5,6,7] rfl rfl ?_
  refine WC_take 8 rfl zK zK zK rfl rfl (qj (v:=zi ((F.n:Nat):Int)) rfl ty3 rfl (qf.own (b:=lb) zM rfl)) rfl ?_
  refine WC_take 9 rfl zK zK zK rfl rfl (QU rfl rfl (YK (by have:=o2.n; omega) (m:=((zn%F.n:Nat):Int)) (qhp zn F.n))) rfl ?_
  refine zw [10] rfl rfl ?_
  refine WC_one 11 zH zK rfl rfl ?_
  refine qy (l:=[zi (zn:Int)]) qZ ty3 (.cons rfl rfl rfl rfl rfl .nil) rfl rfl rfl rfl rfl rfl rfl (fun b33=>?_)
  refine qs (WC_goal ?_)
  refine WC_one 12 zH zK rfl rfl ?_
  refine qk (zc3 rfl rfl rfl) Tryz.call70 rfl ((h2.call o2 (z:=zn) (fun HZ=>Holds.own (b:=b33) (List.mem_append_right _ List.mem_cons_self)) (cap:=1) (H:=(b33,.cells 3 1 [zi (zn:Int)])::(XO1++((lb,.cells 134 15 (qu F.n M tb wb g1 g2 rb db))::(HT++(HW++(H1++(HR++(HD++(HM.flatten++H)))))))))).hsub zH) ?_
  rintro v H' ⟨H22,h22,⟨m3,rfl⟩,rfl⟩
  refine qs (WC_goal (WC_done zH zK (za 2 rfl ?_)))
  have hF2:qV lb T { F with cl:=Zj F.cl F.n zn } ((lb,.cells 134 15 (qu F.n M tb wb g1 g2 rb db))::(HT++(HW++(H1++(H22++(HR++(HD++HM.flatten))))))):=.mk (F:={ F with cl:=Zj F.cl F.n zn }) hT hO hW h1 o1 h22 (o2.call _) hR hU hD hM
  refine qO (H':=XO1++(((lb,.cells 134 15 (qu F.n M tb wb g1 g2 rb db))::(HT++(HW++(H1++(H22++(HR++(HD++HM.flatten)))))))++H)) (by simp only [List.cons_append,List.append_assoc,List.nil_append]; first | exact YF | (repeat (first | with_reducible exact qC.refl _ | refine qC.cons zT ?_ | refine qC.app zS ?_ | exact qC.nil _ | exact qC.refl _ | refine qC.drop ?_ | refine qC.dropS ?_))) ?_
  generalize ((lb,.cells 134 15 (qu F.n M tb wb g1 g2 rb db))::(HT++(HW++(H1++(H22++(HR++(HD++HM.flatten)))))))=HF2 at hF2 ⊢
  refine qE rfl rfl (qQ (m:=((i+1:Nat):Int)) ((zg zO).trans zO)) rfl ?_
  refine za 2 rfl ?_
  refine qP (i+1,{ F with cl:=Zj F.cl F.n zn },HF2) ⟨by show i+1≤ids1.length; omega,hF2,by show _=QY F1 (ids1.take (i+1)); rw [qid hz,← eF,Int.toNat_natCast]⟩ (by show ids1.length-(i+1)<ids1.length-i; omega) (qa rfl (qa rfl (qa rfl (qa rfl (qa rfl (qi _)))))) rfl zH
 ·skip
  refine za 3 rfl ?_
  have ei1:i=ids1.length:=by omega
  subst ei1
  rw [List.take_length] at eF
  have hcb:F.cl.began<1000000000:=by rw [eF,(qfb F1 ids1).2.2,eF1]; exact hb2
  cases hF with
  | @mk tb wb g1 g2 rb db M HT HW H1 H2 HR HD HM hT hO hW h1 o1 h2 o2 hR hU hD hM =>
  refine qO (H':=XO1++((lb,.cells 134 15 (qu F.n M tb wb g1 g2 rb db))::(HT++(HW++(H1++(H2++(HR++(HD++(HM.flatten++H))))))))) (by simp only [List.cons_append,List.append_assoc,List.nil_append]; first | exact YF | (repeat (first | with_reducible exact qC.refl _ | refine qC.cons zT ?_ | refine qC.app zS ?_ | exact qC.nil _ | exact qC.refl _ | refine qC.drop ?_ | refine qC.dropS ?_))) ?_
  refine za 3 rfl ?_
  refine qe (v:=zp g2) rfl qaS rfl (qf.own (b:=lb) zM (Qf (j:=3) hM.m4)) rfl ?_
  have htl2:=qac h2
  obtain ⟨ids2,eI2⟩:∃ ids2,ids2=(zY F.cl).2:=⟨_,rfl⟩
  have hil2:ids2.length≤64*F.n:=by rw [eI2]; exact htl2
  have o22:JE F.n (zY F.cl).1:=o2.look.begin (by rw [qa2]; exact hcb)
  have hn642:=o2.n
  have hms4:=hM.s4
  refine qk (zc1 rfl) Tryz.call69 rfl ((h2.poll o2 hcb hT0 (H:=XO1++((lb,.cells 134 15 (qu F.n M tb wb g1 g2 rb db))::(HT++(HW++(H1++(HR++(HD++(HM.flatten++H))))))))).hsub zH) ?_
  rintro v H' ⟨H22,XO2,h22,hO2,rfl⟩
  rw [← eI2] at hO2
  obtain ⟨ad2,cap2,rfl,hc3,hc4⟩:=hO2.shape
  have hrow2:∀ {H:qg},(∀ p∈XO2,p∈H)→Holds w0 H ad2 (ids2.map (Value.int .i64)):=fun hs=>zm.toHolds hO2 hs
  obtain ⟨F3,eF3⟩:∃ F3,F3=({ F with cl:=(zY F.cl).1 }:Lf):=⟨_,rfl⟩
  have hF3:qV lb T F3 ((lb,.cells 134 15 (qu F.n M tb wb g1 g2 rb db))::(HT++(HW++(H1++(H22++(HR++(HD++HM.flatten))))))):=by rw [eF3]; exact .mk (F:={ F with cl:=(zY F.cl).1 }) hT hO hW h1 o1 h22 o22 hR hU hD hM
  refine qO (H':=XO2++(((lb,.cells 134 15 (qu F.n M tb wb g1 g2 rb db))::(HT++(HW++(H1++(H22++(HR++(HD++HM.flatten)))))))++H)) (by simp only [List.cons_append,List.append_assoc,List.nil_append]; first | exact YF | (repeat (first | with_reducible exact qC.refl _ | refine qC.cons zT ?_ | refine qC.app zS ?_ | exact qC.nil _ | exact qC.refl _ | refine qC.drop ?_ | refine qC.dropS ?_))) ?_
  generalize ((lb,.cells 134 15 (qu F.n M tb wb g1 g2 rb db))::(HT++(HW++(H1++(H22++(HR++(HD++HM.flatten)))))))=HF3 at hF3 ⊢
  clear hT hO hW h1 o1 h2 o2 hR hU hD hM h22 o22 hrow1 hO1
  have hm3:F3.ms=F.ms:=by rw [eF3]
  have hzz:∀ z∈ids2,0≤z∧z<64:=fun z hz=>(hid2 z (by rw [eI2,eF,eF1] at hz; rw [eI1] at hz; exact hz)).1
  have hzm:∀ z∈ids2,(JC F3 (z/16)).isSome=true:=fun z hz=>by
   have:=(hid2 z (by rw [eI2,eF,eF1] at hz; rw [eI1] at hz; exact hz)).2
   unfold JC at this ⊢
   rw [hm3,eF,(qfb F1 ids1).2.1,eF1]; exact this
  refine zZ rfl qZ rfl rfl (za 3 rfl ?_)
  refine qU (X:=(Nat × Lf × qg × Value × qg × List Gn)) [(0,_),(40,_),(41,_)] (fun (z:(Nat × Lf × qg × Value × qg × List Gn))=>[(42,zi (z.1:Int)),(3,z.2.2.2.1)]) (fun _=>_) (fun (z:(Nat × Lf × qg × Value × qg × List Gn))=>XO2++(z.2.2.2.2.1++(z.2.2.1++H))) (fun (z:(Nat × Lf × qg × Value × qg × List Gn))=>z.1≤ids2.length∧qV lb T z.2.1 z.2.2.1∧(z.2.1,z.2.2.2.2.2)=Xj F3 (ids2.take z.1)∧zm 50 4 z.2.2.2.1 z.2.2.2.2.2.length (z.2.2.2.2.2.flatMap gnC) z.2.2.2.2.1) (fun (z:(Nat × Lf × qg × Value × qg × List Gn))=>ids2.length-z.1) (0,F3,HF3,.slice none 0 0,[],[]) ⟨Nat.zero_le _,hF3,rfl,.nil⟩ (qa rfl (qa rfl (qa rfl (qi _)))) (qa rfl (qa rfl (qi _))) rfl (show qC _ (XO2++([]++(HF3++H))) from .refl _) ?_
  rintro ⟨j,Fj,HFj,xv,XB,gs⟩ ⟨hj,hFj,eFj,hOj⟩
  dsimp only at hj hFj eFj hOj ⊢
  simp only [List.cons_append,List.nil_append]
  refine za 4 rfl ?_
  refine qm (p:=(j:Int)<(ids2.length:Int)) rfl (by simp) (fun q1=>?_) (fun q1=>?_)
  ·skip
   refine za 4 rfl ?_
   obtain ⟨z,hz⟩:∃ z,ids2[j]?=some z:=⟨_,List.getElem?_eq_getElem zO⟩
   have hzr:=hzz z (List.mem_of_getElem? hz)
   have hzs:=hzm z (List.mem_of_getElem? hz)
   obtain ⟨zn,rfl⟩:∃ zn:Nat,z=(zn:Int):=⟨z.toNat,by omega⟩
   obtain ⟨f1,f2,f3⟩:=qa7 (F:=F3) (l:=ids2) (by rw [hm3]; exact hms4) hzz (((zn/16:Nat):Int)) j
   rw [← eFj] at f1 f2 f3
   have hgl:gs.length≤j:=f3
   rw [show ((zn:Nat):Int)/16=((zn/16:Nat):Int) by omega] at hzs
   obtain ⟨⟨x4,b4⟩,hm4⟩:=Option.isSome_iff_exists.1 (f1.trans hzs)
   obtain ⟨qz,pz,rfl,hcz⟩:=(hrow2 (H:=XO2++(XB++(HFj++H))) (fun p hp=>List.mem_append_left _ hp)).at (i:=j) (v:=.int .i64 (zn:Int)) (by rw [List.getElem?_map,hz]; rfl)
   refine qS (j:=j) rfl rfl qZ ty3 rfl zO rfl rfl ?_
   refine qe (v:=zi (zn:Int)) rfl ty3 rfl (by rw [Nat.mul_one]; exact hcz) rfl ?_
   refine za 6 rfl ?_
   have hfl:=qe0 Fj zn
   refine qk (zc2 rfl rfl) Tryz.call71 rfl ((hFj.free_ (z:=zn) zO hm4 (H:=XO2++(XB++H))).hsub zH) ?_
   rintro v H' ⟨HF4,XG,hF4,hG,rfl⟩
   obtain ⟨ad5,cap5,rfl,hh5⟩:∃ ad5 cap5,v=.slice ad5 (QI Fj zn).2.length cap5∧Holds w0 (XG++(HF4++(XO2++(XB++H)))) ad5 ((QI Fj zn).2.flatMap gnC):=by
    obtain ⟨ad5,cap5,e,h3,h4,h5⟩:=Holds.of_own (w0:=w0) (H:=XG++(HF4++(XO2++(XB++H)))) hG (fun p hp=>List.mem_append_left _ hp)
    exact ⟨ad5,cap5,e,h5⟩
   refine Qv (news:=(QI Fj zn).2.flatMap gnC) (m:=(QI Fj zn).2.length) (HB:=XB) (H0:=XG++(HF4++(XO2++H))) rfl rfl qbB KQ rfl (by decide) hOj (zt qnE _) hh5 (by rw [List.all_flatMap,List.all_eq_true]; exact fun t _=>rfl) (by simp only [maxLen]; omega) (by omega) zH rfl (fun xv' XB' hO'=>?_)
   refine za 4 rfl ?_
   refine qE rfl rfl (qQ (m:=((j+1:Nat):Int)) ((zg zO).trans zO)) rfl ?_
   refine za 2 rfl ?_
   refine qP (j+1,(QI Fj zn).1,HF4,xv',XB',gs++(QI Fj zn).2) ⟨by show j+1≤ids2.length; omega,hF4,by show _=Xj F3 (ids2.take (j+1)); rw [qeZ hz,← eFj,Int.toNat_natCast],by show zm 50 4 xv' (gs++(QI Fj zn).2).length ((gs++(QI Fj zn).2).flatMap gnC) XB'; rw [List.length_append,List.flatMap_append]; exact hO'⟩ (by show ids2.length-(j+1)<ids2.length-j; omega) (qa rfl (qa rfl (qa rfl (qa rfl (qa rfl (qi _)))))) rfl zH
  ·skip
   refine za 3 rfl ?_
   have ej:j=ids2.length:=by omega
   obtain ⟨f1,f2,f3⟩:=qa7 (F:=F3) (l:=ids2) (by rw [hm3]; exact hms4) hzz 0 j
   rw [← eFj] at f1 f2 f3
   rw [ej,List.take_length] at eFj
   have hgl:gs.length≤4096:=by
    have h1:gs.length≤j:=f3
    omega
   cases hFj with
   | @mk tb wb g1 g2 rb db M HT HW H1 H2 HR HD HM hT hO hW h1 o1 h2 o2 hR hU hD hM =>
   refine qO (H':=XB++((lb,.cells 134 15 (qu Fj.n M tb wb g1 g2 rb db))::(HT++(HW++(H1++(H2++(HR++(HD++(HM.flatten++H))))))))) (by simp only [List.cons_append,List.append_assoc,List.nil_append]; first | exact YF | (repeat (first | with_reducible exact qC.refl _ | refine qC.cons zT ?_ | refine qC.app zS ?_ | exact qC.nil _ | exact qC.refl _ | refine qC.drop ?_ | refine qC.dropS ?_))) ?_
   refine za 3 rfl ?_
   refine qJ (vs:=M.flatMap mcC) rfl qbY rfl (b:=lb) zM (by rw [Nat.ble_eq,qdT,hM.m4]; decide) (by show ((qu Fj.n M tb wb g1 g2 rb db).drop 1).take 8=_; exact qpD hM.m4) rfl ?_
   refine za 3 rfl ?_
   refine qU (X:=(Nat × List (Option Nat × Bool) × List (Option (Xm × Bool)) × List qg × Value × qg × List Gn)) [(0,_),(55,_)] (fun (z:(Nat × List (Option Nat × Bool) × List (Option (Xm × Bool)) × List qg × Value × qg × List Gn))=>[(56,zi (z.1:Int)),(3,z.2.2.2.2.1)]) (fun _=>_) (fun (z:(Nat × List (Option Nat × Bool) × List (Option (Xm × Bool)) × List qg × Value × qg × List Gn))=>z.2.2.2.2.2.1++((lb,.cells 134 15 (qu Fj.n z.2.1 tb wb g1 g2 rb db))::(HT++(HW++(H1++(H2++(HR++(HD++(z.2.2.2.1.flatten++H))))))))) (fun (z:(Nat × List (Option Nat × Bool) × List (Option (Xm × Bool)) × List qg × Value × qg × List Gn))=>z.1≤4∧XV T z.2.1 z.2.2.1 z.2.2.2.1∧(∀ q:Nat,z.1≤q→z.2.1[q]?=M[q]?∧z.2.2.2.1[q]?=HM[q]?)∧(z.2.2.1,z.2.2.2.2.2.2)=qbt Fj.ms gs z.1∧zm 50 4 z.2.2.2.2.1 z.2.2.2.2.2.2.length (z.2.2.2.2.2.2.flatMap gnC) z.2.2.2.2.2.1∧z.2.2.2.2.2.2.length≤4096+z.1) (fun (z:(Nat × List (Option Nat × Bool) × List (Option (Xm × Bool)) × List qg × Value × qg × List Gn))=>4-z.1) (0,M,Fj.ms,HM,xv,XB,gs) ⟨Nat.zero_le _,hM,fun q _=>⟨rfl,rfl⟩,rfl,hOj,hgl⟩ (qa rfl (qa rfl (qi _))) (qa rfl (qa rfl (qi _))) rfl (.refl _) ?_
   rintro ⟨k,M1,ms1,HM1,yv,YB,ys⟩ ⟨hk,hM1,hq1,eg,hOy,hyl⟩
   dsimp only at hk hM1 hq1 eg hOy hyl ⊢
   simp only [List.cons_append,List.nil_append]
   refine za 4 rfl ?_
   refine qm (p:=k<4) rfl (by rw [decide_eq_true_eq]; omega) (fun q2=>?_) (fun q2=>?_)
   ·skip
    refine za 4 rfl ?_
    obtain ⟨c,hc⟩:∃ c,M[k]?=some c:=⟨_,List.getElem?_eq_getElem (by rw [hM.m4]; omega)⟩
    obtain ⟨y,hy⟩:∃ y,Fj.ms[k]?=some y:=⟨_,List.getElem?_eq_getElem (by rw [hM.s4]; omega)⟩
    obtain ⟨X,hX0⟩:∃ X,HM[k]?=some X:=⟨_,List.getElem?_eq_getElem (by rw [hM.h4]; omega)⟩
    have hmp:=hM.at_ k c y X hc hy hX0
    have hX1:HM1[k]?=some X:=by rw [(hq1 k (Nat.le_refl _)).2]; exact hX0
    have hc1':M1[k]?=some c:=by rw [(hq1 k (Nat.le_refl _)).1]; exact hc
    refine qD rfl rfl ?_
    refine qir (vs:=mcC c) (j:=k) rfl rfl qbY Xe rfl rfl zO ((Ji (o:=0) (m:=2) Jd hc zd).trans rfl) rfl ?_
    refine qp (l:=mcC (none,false)) Xe rfl rfl (fun b9=>?_)
    refine Ky rfl rfl ?_
    refine ql (l':=mcC c) rfl rfl Xe rfl rfl (b:=b9) zM (by exact Nat.le_refl 2) rfl zU ?_
    refine za 2 rfl ?_
    obtain ⟨ca,cb⟩:=c
    rcases (show (ca=none∧cb=false∧y=none)∨(∃ mb x,ca=some mb∧cb=false∧y=some (x,false)∧XmH mb T x X)∨(∃ mb x,ca=some mb∧cb=true∧y=some (x,true)∧XmH mb T x X) by
     cases hmp with
     | none=>exact .inl ⟨rfl,rfl,rfl⟩
     | @some mb x b X h =>
      cases cb with
      | false=>exact .inr (.inl ⟨mb,x,rfl,rfl,rfl,h⟩)
      | true=>exact .inr (.inr ⟨mb,x,rfl,rfl,rfl,h⟩)) with ⟨rfl,rfl,rfl⟩ | ⟨mb,x,rfl,rfl,rfl,hx⟩ | ⟨mb,x,rfl,rfl,rfl,hx⟩
    ·skip
     refine za 1 rfl ?_
     refine qe (v:=.bool false) rfl ty4 rfl (qf.own (b:=b9) zM rfl) rfl ?_
     refine za 11 rfl ?_
     refine qE rfl rfl (qQ (m:=((k+1:Nat):Int)) ((zg zO).trans zO)) rfl ?_
     refine za 2 rfl ?_
     refine qP (k+1,M1,ms1,HM1,yv,YB,ys) ⟨by show k+1≤4; omega,hM1,fun q hq=>hq1 q (by have:k+1≤q:=hq; omega),by show _=qav Fj.ms (qbt Fj.ms gs k) k; unfold qav; rw [hy,← eg]; try (dsimp only; rw [if_neg (by exact_mod_cast q3)]),hOy,by show ys.length≤4096+(k+1); omega⟩ (by show 4-(k+1)<4-k; omega) (qa rfl (qa rfl (qa rfl (qa rfl (qi _))))) rfl zH
    ·skip
     refine za 1 rfl ?_
     refine qe (v:=.bool false) rfl ty4 rfl (qf.own (b:=b9) zM rfl) rfl ?_
     refine za 11 rfl ?_
     refine qE rfl rfl (qQ (m:=((k+1:Nat):Int)) ((zg zO).trans zO)) rfl ?_
     refine za 2 rfl ?_
     refine qP (k+1,M1,ms1,HM1,yv,YB,ys) ⟨by show k+1≤4; omega,hM1,fun q hq=>hq1 q (by have:k+1≤q:=hq; omega),by show _=qav Fj.ms (qbt Fj.ms gs k) k; unfold qav; rw [hy,← eg]; try (dsimp only; rw [if_neg (by exact_mod_cast q3)]),hOy,by show ys.length≤4096+(k+1); omega⟩ (by show 4-(k+1)<4-k; omega) (qa rfl (qa rfl (qa rfl (qa rfl (qi _))))) rfl zH
    ·skip
     refine za 1 rfl ?_
     refine qe (v:=.bool true) rfl ty4 rfl (qf.own (b:=b9) zM rfl) rfl ?_
     refine za 4 rfl ?_
     refine qe (v:=zp mb) rfl YP rfl (qf.own (b:=b9) zM rfl) rfl ?_
     refine QD rfl rfl ?_
     refine qn (zc1 rfl) Tryz.call43 rfl (hx.held (fun p hp=>List.mem_cons_of_mem _ (List.mem_append_right _ (List.mem_cons_of_mem _ (List.mem_append_right _ (List.mem_append_right _ (List.mem_append_right _ (List.mem_append_right _ (List.mem_append_right _ (List.mem_append_right _ (List.mem_append_left _ (Xz hX1 hp)))))))))))) ?_
     refine za 4 rfl ?_
     refine Y2 rfl (fun q3=>?_) (fun q3=>?_)
     ·simp only [cond_true,cond_false,Bool.and_eq_true,Bool.or_eq_true,Bool.and_eq_false_iff,Bool.or_eq_false_iff,decide_eq_true_eq,decide_eq_false_iff_not,Bool.not_eq_true',Bool.not_eq_false',ne_eq,Decidable.not_not] at q3
      refine za 3 rfl ?_
      refine qX (l:=mcC (none,false)) Xe qoQ .nil rfl rfl rfl ?_
      refine za 2 rfl ?_
      refine Qe (j:=k) rfl rfl qbY Xe (by first | rfl | omega) (by first | decide | omega | simp) rfl rfl ?_
      refine ql (l':=qu Fj.n (M1.set k (none,false)) tb wb g1 g2 rb db) rfl rfl Xe rfl rfl (b:=lb) zM (by rw [qdT,hM1.m4]; omega) (qjK (c':=(none,false)) (by rw [hM1.m4]; omega)) zU ?_
      refine za 4 rfl ?_
      refine qX (l:=gnC ⟨(k:Int),0,0,true⟩) KQ qhH (.cons rfl rfl rfl rfl rfl (.cons rfl rfl rfl rfl rfl .nil)) rfl rfl rfl ?_
      refine qy (l:=gnC ⟨(k:Int),0,0,true⟩) qbB KQ (.cons rfl rfl rfl rfl rfl .nil) rfl rfl rfl rfl rfl rfl rfl (fun b77=>?_)
      refine qO (H':=(b77,.cells 50 4 (gnC ⟨(k:Int),0,0,true⟩))::(b9,.cells 129 2 (mcC (some mb,true)))::(YB++((lb,.cells 134 15 (qu Fj.n (M1.set k (none,false)) tb wb g1 g2 rb db))::(HT++(HW++(H1++(H2++(HR++(HD++((HM1.set k []).flatten++H)))))))))) (.cons (.here _) (.cons (.here _) (.app (.here _) (.cons (.here _) (.app (.here _) (.app (.here _) (.app (.here _) (.app (.here _) (.app (.here _) (.app (.here _) ((QK hX1).trans (.dropS (.refl _))))))))))))) ?_
      refine Qv (news:=gnC ⟨(k:Int),0,0,true⟩) (m:=1) (HB:=YB) (H0:=(b77,.cells 50 4 (gnC ⟨(k:Int),0,0,true⟩))::(b9,.cells 129 2 (mcC (some mb,true)))::((lb,.cells 134 15 (qu Fj.n (M1.set k (none,false)) tb wb g1 g2 rb db))::(HT++(HW++(H1++(H2++(HR++(HD++((HM1.set k []).flatten++H))))))))) rfl rfl qbB KQ rfl (by decide) hOy rfl (Holds.own (b:=b77) zM) rfl (by simp only [maxLen]; omega) (by omega) zH rfl (fun yv' YB' hO'=>?_)
      refine za 4 rfl ?_
      refine qE rfl rfl (qQ (m:=((k+1:Nat):Int)) ((zg zO).trans zO)) rfl ?_
      refine za 2 rfl ?_
      refine qP (k+1,M1.set k (none,false),ms1.set k none,HM1.set k [],yv',YB',ys++[⟨(k:Int),0,0,true⟩]) ⟨by show k+1≤4; omega,hM1.set .none,fun q hq=>⟨by rw [List.getElem?_set_ne (show k≠q by have:k+1≤q:=hq; omega)]; exact (hq1 q (by have:k+1≤q:=hq; omega)).1,by rw [List.getElem?_set_ne (show k≠q by have:k+1≤q:=hq; omega)]; exact (hq1 q (by have:k+1≤q:=hq; omega)).2⟩,by show _=qav Fj.ms (qbt Fj.ms gs k) k; unfold qav; rw [hy,← eg]; dsimp only; rw [if_pos (by exact_mod_cast q3)],by show zm 50 4 yv' (ys++[_]).length ((ys++[_]).flatMap gnC) YB'; rw [List.length_append,List.flatMap_append]; exact hO',by show (ys++[_]).length≤4096+(k+1); rw [List.length_append,List.length_singleton]; omega⟩ (by show 4-(k+1)<4-k; omega) (qa rfl (qa rfl (qa rfl (qa rfl (qi _))))) rfl zH
     ·simp only [cond_true,cond_false,Bool.and_eq_true,Bool.or_eq_true,Bool.and_eq_false_iff,Bool.or_eq_false_iff,decide_eq_true_eq,decide_eq_false_iff_not,Bool.not_eq_true',Bool.not_eq_false',ne_eq,Decidable.not_not] at q3
      refine za 3 rfl ?_
      refine qE rfl rfl (qQ (m:=((k+1:Nat):Int)) ((zg zO).trans zO)) rfl ?_
      refine za 2 rfl ?_
      refine qP (k+1,M1,ms1,HM1,yv,YB,ys) ⟨by show k+1≤4; omega,hM1,fun q hq=>hq1 q (by have:k+1≤q:=hq; omega),by show _=qav Fj.ms (qbt Fj.ms gs k) k; unfold qav; rw [hy,← eg]; try (dsimp only; rw [if_neg (by exact_mod_cast q3)]),hOy,by show ys.length≤4096+(k+1); omega⟩ (by show 4-(k+1)<4-k; omega) (qa rfl (qa rfl (qa rfl (qa rfl (qi _))))) rfl zH
   ·skip
    refine za 5 rfl ?_
    refine qd (H2:=YB++((lb,.cells 134 15 (qu Fj.n M1 tb wb g1 g2 rb db))::(HT++(HW++(H1++(H2++(HR++(HD++(HM1.flatten++H))))))))) Tryz.results18 rfl (.nil _) zH ?_
    have ek:k=4:=by omega
    subst ek
    have eP:Jv F0=({ Fj with ms:=ms1 },ys):=by
     unfold Jv
     dsimp only
     rw [← eI1,← eF1,← eF,← eI2,← eF3,← eFj]
     dsimp only
     rw [← eg]
    rw [eP]
    exact ⟨_,YB,.mk (F:={ Fj with ms:=ms1 }) hT hO hW h1 o1 h2 o2 hR hU hD hM1,hOy,by simp only [List.cons_append,List.append_assoc,List.nil_append]⟩
end Go.Proofs.YtincjohoncljoaaGreatDoor
namespace Go.Proofs.YtincjohoncljoaaGreatDoor
open Go Go.Sl
variable {w0:World} {H:qg} {b1 db cl:Nat} {E:List Dye}
attribute [local irreducible] W
open Go.Proofs
theorem qfU {lp:Nat} (hok:QP (E.map Dye.ent) cl) (J:List Int→qg→Prop)
  (hround:∀ ks z Hi (HZ:qg),ks.length<E.length→J ks Hi→ZD Tryz.prog w0 lp #[zi z] (HZ++Hi) (fun v H'=>∃ Hi',qC H' (HZ++Hi')∧v=.bool true∧J (ks++[z]) Hi')) (hJ:J [] H) :
  qh Tryz.prog w0 175 #[.func (.yield lp) #[] #[],zp b1] ((b1,.cells 132 1 [.map (some db)])::(db,.obj (qM (Value.int .i64) ((E).map Dye.ent) cl))::H) (fun _ H'=>∃ (Hi':qg) (ks:List Int),qC H' ((b1,.cells 132 1 [.map (some db)])::(db,.obj (qM (Value.int .i64) ((E).map Dye.ent) cl))::Hi')∧ks.Perm (E.map Dye.key)∧J ks Hi'):=by
 refine qc (l:=[.func (.yield lp) #[] #[],zp b1]) Tryz.func175 rfl Tryz.ntmps175 rfl rfl ?_
 refine ze ?_
 refine qe (v:=.map (some db)) rfl Yi rfl (qf.own (b:=b1) zM rfl) rfl ?_
 refine qha (kf:=(Value.int .i64)) (l:=E.map Dye.ent) (cl:=cl) rfl Yi zM rfl (fun r=>?_)
 refine za 2 rfl ?_
 refine qU (X:=(Qk Int × qg)) [(0,_),(5,_)] (fun (x:(Qk Int × qg))=>[]) (fun _=>_) (fun (x:(Qk Int × qg))=>(r,.obj (J1 db cl (x.1.map (·.2.2)) cl))::(b1,.cells 132 1 [.map (some db)])::(db,.obj (qM (Value.int .i64) ((E).map Dye.ent) cl))::x.2) (fun (x:(Qk Int × qg))=>(x.1.map (·.2.2)).Nodup∧(∀ p∈x.1,p∈E.map Dye.ent)∧J (x.1.map (·.1)) x.2) (fun (x:(Qk Int × qg))=>E.length-x.1.length) ([],H) ⟨.nil,(fun p hp=>(by cases hp)),hJ⟩ (qa rfl (qa rfl (qi _))) (qi _) rfl (qC.refl _) ?_
 rintro ⟨vs,Hi⟩ ⟨hnd,hin,hJi⟩
 dsimp only at hnd hin hJi ⊢
 simp only [List.cons_append,List.nil_append]
 refine ze ?_
 refine qmc (kf:=(Value.int .i64)) (l:=E.map Dye.ent) (cl:=cl) (b:=db) (r:=r) (since:=cl) (c0:=cl) (sl:=vs.map (·.2.2)) (HN:=fun p=>(r,.obj (J1 db cl (vs.map (·.2.2)++[p.2.2]) cl))::(b1,.cells 132 1 [.map (some db)])::(db,.obj (qM (Value.int .i64) ((E).map Dye.ent) cl))::Hi) rfl zM zM hok.lt (Nat.le_refl _) (fun p=>.head _) rfl (fun hall=>?_) (fun p hp hnp=>?_)
 ·skip
  refine za 5 rfl (Zn Tryz.results175 (.nil _) (.refl _) ?_)
  have hpm:=qbX hok hnd hin hall
  exact ⟨Hi,vs.map (·.1),.drop (.refl _),by have:=hpm.map (·.1); rwa [List.map_map] at this,hJi⟩
 ·skip
  refine za 7 rfl ?_
  refine qhb (kf:=(Value.int .i64)) (l:=E.map Dye.ent) (cl:=cl) (b:=db) (r:=r) (since:=cl) (sl:=vs.map (·.2.2)) (p:=p) rfl zM zM hp hok rfl ?_
  refine za 6 rfl ?_
  have hvl:=qaa hnd hin hp hnp
  rw [List.length_map] at hvl
  refine JT rfl (.cons rfl .nil) rfl (hround (vs.map (·.1)) p.1 Hi [(r,.obj (J1 db cl (vs.map (·.2.2)++[p.2.2]) cl)),(b1,.cells 132 1 [.map (some db)]),(db,.obj (qM (Value.int .i64) ((E).map Dye.ent) cl))] (by rw [List.length_map]; exact hvl) hJi) ?_
  rintro v H' ⟨Hi',hsub,rfl,hJ'⟩
  refine qO hsub ?_
  rw [show [(r,.obj (J1 db cl (vs.map (·.2.2)++[p.2.2]) cl)),(b1,.cells 132 1 [.map (some db)]),(db,.obj (qM (Value.int .i64) ((E).map Dye.ent) cl))]++Hi'=(r,.obj (J1 db cl (vs.map (·.2.2)++[p.2.2]) cl))::(b1,.cells 132 1 [.map (some db)])::(db,.obj (qM (Value.int .i64) ((E).map Dye.ent) cl))::Hi' from rfl]
  refine za 5 rfl ?_
  refine qP (vs++[p],Hi') ⟨by show ((vs++[p]).map (·.2.2)).Nodup; rw [List.map_append]; exact List.nodup_append.2 ⟨hnd,by simp,fun x hx y hy e=>hnp (by obtain rfl:y=p.2.2:=(by simpa using hy); exact e ▸ hx)⟩,fun q hq=>(List.mem_append.1 hq).elim (hin q) (fun h=>by obtain rfl:q=p:=(by simpa using h); exact hp),by show J ((vs++[p]).map (·.1)) Hi'; rw [List.map_append]; exact hJ'⟩ (by show E.length-(vs++[p]).length<E.length-vs.length; rw [List.length_append,List.length_singleton]; omega) (qa rfl (qa rfl (qi _))) rfl (by simp only [List.map_append,List.map_cons,List.map_nil]; exact .refl _)
theorem ql2 (hok:QP (E.map Dye.ent) cl) (hEl:E.length≤1000) :qh Tryz.prog w0 261 #[.slice none 0 0,.func (.func 175) #[] #[zp b1]] ((b1,.cells 132 1 [.map (some db)])::(db,.obj (qM (Value.int .i64) ((E).map Dye.ent) cl))::H) (fun v H'=>∃ (ks:List Int) (XB:qg),ks.Perm (E.map Dye.key)∧zm 3 1 v ks.length (ks.map (Value.int .i64)) XB∧H'=XB++((b1,.cells 132 1 [.map (some db)])::(db,.obj (qM (Value.int .i64) ((E).map Dye.ent) cl))::H)):=by
 refine qc (l:=[.slice none 0 0,.func (.func 175) #[] #[zp b1]]) Tryz.func261 rfl Tryz.ntmps261 rfl rfl ?_
 refine ze ?_
 refine qK (l:=[.slice none 0 0]) rfl rfl rfl (fun b2=>?_)
 refine za 7 rfl (Qp rfl Tryz.call175 ?_)
 intro lp D r hst hpd hps hasg hbody hA
 have hr:=QC hst hpd
 show qh _ _ _ #[_,_] _ _
 refine ((qfU (b1:=b1) (H:=(lp,.obj (.loop r))::(D,.obj (.deferred (some [])))::(b2,.cells 63 1 [.slice none 0 0])::H) hok (fun ks Hi=>∃ xv XB,zm 3 1 xv ks.length (ks.map (Value.int .i64)) XB∧Hi=(lp,.obj (.loop r))::(D,.obj (.deferred (some [])))::(b2,.cells 63 1 [xv])::(XB++H)) ?_ ⟨_,[],.nil,rfl⟩).hsub zH).mono ?_
 ·intro ks z Hi HZ hkl hJ
  obtain ⟨xv,XB,hX,rfl⟩:=hJ
  refine Qo hst hpd hA hps rfl hasg rfl rfl rfl zT ?_
  refine za 3 rfl (Jf hst hpd zT hbody (za 2 rfl ?_))
  refine qe (v:=xv) rfl qZ rfl (qf.own (b:=b2) zM rfl) rfl ?_
  refine qD rfl rfl ?_
  refine qy (l:=[zi z]) qZ ty3 (.cons rfl rfl rfl rfl rfl .nil) rfl rfl rfl rfl rfl rfl rfl (fun b10=>?_)
  refine Qv (news:=[zi z]) (m:=1) (HB:=XB) (H0:=(b10,.cells 3 1 [zi z])::(lp,.obj (.loop (Loop.at r .busy none)))::(HZ++((D,.obj (.deferred (some [])))::(b2,.cells 63 1 [xv])::H))) rfl rfl qZ ty3 rfl (by decide) hX rfl (Holds.own List.mem_cons_self) rfl (by simp only [maxLen]; omega) (by omega) zH rfl (fun v' HB' hO'=>?_)
  refine qv (l':=[v']) rfl rfl qZ (by obtain ⟨a0,c0',e0,_⟩:=hO'.shape; rw [e0]; rfl) rfl (b:=b2) zM rfl rfl zU ?_
  refine za 2 rfl (Qs zT ?_)
  rw [hr]
  exact ⟨(lp,.obj (.loop r))::(D,.obj (.deferred (some [])))::(b2,.cells 63 1 [v'])::(HB'++H),zH,rfl,v',HB',by rw [List.length_append,List.map_append]; exact hO',rfl⟩
 ·intro _ H' hp
  obtain ⟨Hi',ks,hs,hpm,xv,XB,hX,rfl⟩:=hp
  refine ⟨.ready,none,(b1,.cells 132 1 [.map (some db)])::(db,.obj (qM (Value.int .i64) ((E).map Dye.ent) cl))::(D,.obj (.deferred (some [])))::(b2,.cells 63 1 [xv])::(XB++H),by rw [hr]; exact hs.trans zH,by decide,?_⟩
  show W _ _ _ _ _ _ _ _ _
  refine za 2 rfl ?_
  refine qe (v:=xv) rfl qZ rfl (qf.own (b:=b2) zM rfl) rfl ?_
  refine za 2 rfl ?_
  refine qd (H2:=XB++((b1,.cells 132 1 [.map (some db)])::(db,.obj (qM (Value.int .i64) ((E).map Dye.ent) cl))::H)) Tryz.results261 rfl (.cons zT (.nil _)) zH ?_
  exact ⟨ks,XB,hpm,hX,rfl⟩
theorem qib (hok:QP (E.map Dye.ent) cl) (hEl:E.length≤1000) :qh Tryz.prog w0 173 #[.func (.func 175) #[] #[zp b1]] ((b1,.cells 132 1 [.map (some db)])::(db,.obj (qM (Value.int .i64) ((E).map Dye.ent) cl))::H) (fun v H'=>∃ (ks:List Int) (XB:qg),ks.Perm (E.map Dye.key)∧zm 3 1 v ks.length (ks.map (Value.int .i64)) XB∧H'=XB++((b1,.cells 132 1 [.map (some db)])::(db,.obj (qM (Value.int .i64) ((E).map Dye.ent) cl))::H)):=by
 refine qc (l:=[.func (.func 175) #[] #[zp b1]]) Tryz.func173 rfl Tryz.ntmps173 rfl rfl ?_
 refine za 5 rfl ?_
 refine qk (zc2 rfl rfl) Tryz.call261 rfl (ql2 hok hEl (H:=H)) ?_
 rintro v H' ⟨ks,XB,hpm,hX,rfl⟩
 refine za 2 rfl ?_
 refine qd (H2:=XB++((b1,.cells 132 1 [.map (some db)])::(db,.obj (qM (Value.int .i64) ((E).map Dye.ent) cl))::H)) Tryz.results173 rfl (.nil _) zH ?_
 exact ⟨ks,XB,hpm,hX,rfl⟩
theorem qhv (hok:QP (E.map Dye.ent) cl) (hEl:E.length≤1000) (hEn:(E.map Dye.key).Nodup) :qh Tryz.prog w0 86 #[.func (.func 175) #[] #[zp b1]] ((b1,.cells 132 1 [.map (some db)])::(db,.obj (qM (Value.int .i64) ((E).map Dye.ent) cl))::H) (fun v H'=>∃ XB,zm 3 1 v (Yj (E.map Dye.key)).length ((Yj (E.map Dye.key)).map (Value.int .i64)) XB∧H'=XB++((b1,.cells 132 1 [.map (some db)])::(db,.obj (qM (Value.int .i64) ((E).map Dye.ent) cl))::H)):=by
 refine qc (l:=[.func (.func 175) #[] #[zp b1]]) Tryz.func86 rfl Tryz.ntmps86 rfl rfl ?_
 refine za 5 rfl ?_
 refine qk (zc1 rfl) Tryz.call173 rfl (qib hok hEl (H:=H)) ?_
 rintro v H' ⟨ks,XB,hpm,hX,rfl⟩
 have hkl:ks.length≤1000:=by rw [hpm.length_eq,List.length_map]; exact hEl
 rcases qpt hX with ⟨rfl,hn0,-,rfl⟩ | ⟨b,cap,rfl,rfl,hcap,hmax⟩
 ·skip
  refine za 4 rfl ?_
  refine qT (zc1 rfl) Tryz.call174 rfl (T:=fun _=>True) trivial (fun w0 H _ w hs=>(callsIn_wide.2 (Tryz.slices_Sort_int_none none 0 w)).mono (by rintro en w2 ⟨rfl,rfl⟩; exact ⟨_,_,rfl,⟨rfl,rfl⟩,hs⟩)) ?_
  refine za 5 rfl ?_
  refine qd (H2:=[]++((b1,.cells 132 1 [.map (some db)])::(db,.obj (qM (Value.int .i64) ((E).map Dye.ent) cl))::H)) Tryz.results86 rfl (.nil _) zH ?_
  obtain rfl:=List.eq_nil_of_length_eq_zero hn0
  have hE0:E.map Dye.key=[]:=List.Perm.nil_eq hpm |>.symm
  refine ⟨[],?_,rfl⟩
  rw [hE0,show Yj ([]:List Int)=[] from List.mergeSort_nil]
  exact .nil
 ·skip
  refine za 4 rfl ?_
  refine qO (H':=(b,.cells 3 (cap*1) (ks.map (Value.int .i64)))::((b1,.cells 132 1 [.map (some db)])::(db,.obj (qM (Value.int .i64) ((E).map Dye.ent) cl))::H)) (.refl _) ?_
  refine qk (zc1 rfl) Tryz.call174 rfl (qmR zO) ?_
  rintro v H' ⟨rfl,rfl⟩
  refine za 5 rfl ?_
  refine qd (H2:=[(b,.cells 3 (cap*1) ((Yj ks).map (Value.int .i64)))]++((b1,.cells 132 1 [.map (some db)])::(db,.obj (qM (Value.int .i64) ((E).map Dye.ent) cl))::H)) Tryz.results86 rfl (.nil _) zH ?_
  have hsi:Yj ks=Yj (E.map Dye.key):=qg3 ((YC _).trans (hpm.trans (YC _).symm)) (qdb (hpm.nodup_iff.2 hEn)) (qdb hEn)
  have hl2:ks.length=(Yj ks).length:=(YC _).length_eq.symm
  refine ⟨_,?_,rfl⟩
  rw [← hsi,hl2]
  exact zm.own (by simp) (by omega) hmax
theorem qnn:qh Tryz.prog w0 87 #[.map (some db)] (H) (fun v H'=>∃ b1,v=.func (.func 175) #[] #[zp b1]∧H'=(b1,.cells 132 1 [.map (some db)])::H):=by
 refine qc (l:=[.map (some db)]) Tryz.func87 rfl Tryz.ntmps87 rfl rfl ?_
 refine ze ?_
 refine qK (l:=[.map (some db)]) rfl rfl rfl (fun b1=>?_)
 refine za 3 rfl (qI .nil (.cons rfl .nil) rfl (za 2 rfl (qd Tryz.results87 rfl (.nil _) (.refl _) ?_)))
 exact ⟨b1,rfl,rfl⟩
def dyK (dy:List (Int × Hd)):List Int:=Yj (dy.map (·.1))
theorem qpQ (E:List Dye):Yj (E.map Dye.key)=dyK (E.map Dye.p):=by unfold dyK; rw [List.map_map]; rfl
theorem qV.dying {HF:qg} {lb T:Nat} {F:Lf} (hF:qV lb T F HF) (hl:F.dy.length≤1000) (hnd:(F.dy.map (·.1)).Nodup) :qh Tryz.prog w0 28 #[zp lb] (HF++H) (fun v H'=>∃ XB,zm 3 1 v (dyK F.dy).length ((dyK F.dy).map (Value.int .i64)) XB∧H'=XB++(HF++H)):=by
 cases hF with
 | @mk tb wb g1 g2 rb db M HT HW H1 H2 HR HD HM hT hO hW h1 o1 h2 o2 hR hU hD hM =>
 cases hD with
 | @mk E cl hok hdy =>
 have e0:((lb,.cells 134 15 (qu F.n M tb wb g1 g2 rb db))::(HT++(HW++(H1++(H2++(HR++([(db,.obj (qM (Value.int .i64) ((E).map Dye.ent) cl))]++HM.flatten)))))))++H=(lb,.cells 134 15 (qu F.n M tb wb g1 g2 rb db))::(HT++(HW++(H1++(H2++(HR++((db,.obj (qM (Value.int .i64) ((E).map Dye.ent) cl))::(HM.flatten++H))))))):=by simp only [List.cons_append,List.append_assoc,List.nil_append]
 rw [e0]
 have hEl:E.length≤1000:=by have:=congrArg List.length hdy; rw [List.length_map] at this; omega
 have hEn:(E.map Dye.key).Nodup:=by rw [← hdy,List.map_map] at hnd; exact hnd
 refine qc (l:=[zp lb]) Tryz.func28 rfl Tryz.ntmps28 rfl rfl ?_
 refine za 6 rfl ?_
 refine W_x (qr rfl rfl KR) (fun _ h=>by cases h) rfl ?_
 refine za 7 rfl ?_
 refine qe (v:=.map (some db)) rfl Yi rfl (qf.own (b:=lb) zM (Qf (j:=5) hM.m4)) rfl ?_
 refine qk (zc1 rfl) Tryz.call87 rfl qnn ?_
 rintro v H' ⟨b1,rfl,rfl⟩
 refine qk (zc1 rfl) Tryz.call86 rfl ((qhv hok hEl hEn (b1:=b1) (H:=(lb,.cells 134 15 (qu F.n M tb wb g1 g2 rb db))::(HT++(HW++(H1++(H2++(HR++(HM.flatten++H)))))))).hsub zH) ?_
 rintro v H' ⟨XB,hX,rfl⟩
 refine za 2 rfl ?_
 refine qd (H2:=XB++((lb,.cells 134 15 (qu F.n M tb wb g1 g2 rb db))::(HT++(HW++(H1++(H2++(HR++((db,.obj (qM (Value.int .i64) ((E).map Dye.ent) cl))::(HM.flatten++H))))))))) Tryz.results28 rfl (.nil _) zH ?_
 rw [← e0,← hdy,← qpQ]
 exact ⟨XB,hX,rfl⟩
theorem qpM:Yh Tryz.prog 1 50 [.int .i64,.int .i64,.int .i64,.bool]:=(Yh.struct KQ zk zk (.cons (ks:=[.int .i64]) zd rfl zk (Yh.leaf (k:=.int .i64) ty3) (.cons (ks:=[.int .i64]) zd rfl zk (Yh.leaf (k:=.int .i64) ty3) (.cons (ks:=[.int .i64]) zd rfl zk (Yh.leaf (k:=.int .i64) ty3) (.cons (ks:=[.bool]) zd rfl zk (Yh.leaf (k:=.bool) ty4) .nil)))))
theorem agg50:KT Tryz.prog 50=true:=by kernel_rfl
theorem gt50:Tryz.prog.eqGuardType Tryz.prog.depth 50=false:=by kernel_rfl
theorem qjX (v:Gn):Zz [.int .i64,.int .i64,.int .i64,.bool] (gnC v):=⟨⟨_,rfl⟩,⟨_,rfl⟩,⟨_,rfl⟩,⟨_,rfl⟩,trivial⟩
theorem qnF (v w:Gn) (h:gnC v=gnC w):v=w:=by
 obtain ⟨a,b,c,d⟩:=v
 obtain ⟨a',b',c',d'⟩:=w
 simp only [gnC,List.cons.injEq,Value.int.injEq,Value.bool.injEq,true_and,and_true] at h
 obtain ⟨rfl,rfl,rfl,rfl⟩:=h
 rfl
def kF1 (Ws:List Wl):Lf:={ lf0 1 Ws with ms:=(lf0 1 Ws).ms.set 0 (some (Xm.new 1 2 1,false)) }
def kF2 (Ws:List Wl):Lf:=(K1 (kF1 Ws) 0 0 5 [50]).1
def kF3 (Ws:List Wl):Lf:=(Y1 (kF2 Ws) 0 5).1
def kP (Ws:List Wl):Nat→Lf
 | 0=>kF3 Ws
 | k+1=>(Jv (kP Ws k)).1
theorem qoT (Ws:List Wl):(K1 (kF1 Ws) 0 0 5 [50]).2=(⟨0,1⟩,0):=by kernel_rfl
theorem k_num (Ws:List Wl):qbD (kF2 Ws) 0 ⟨0,1⟩=(0,0):=by kernel_rfl
theorem qpJ (Ws:List Wl):(Y1 (kF2 Ws) 0 5).2=0:=by kernel_rfl
theorem k_dy (Ws:List Wl):(kF3 Ws).dy=[(0,⟨0,1⟩)]:=by kernel_rfl
theorem k_dyK (Ws:List Wl):dyK (kF3 Ws).dy=[0]:=by rw [k_dy]; exact List.mergeSort_singleton _
theorem k_t0 (Ws:List Wl):(zY (kP Ws 0).tr).2=[]:=by kernel_rfl
theorem k_c0 (Ws:List Wl):(zY (QY { kP Ws 0 with tr:=(zY (kP Ws 0).tr).1 } (zY (kP Ws 0).tr).2).cl).2=[]:=by kernel_rfl
theorem k_p0 (Ws:List Wl):(Jv (kP Ws 0)).2=[]:=by kernel_rfl
theorem k_bt0 (Ws:List Wl):(kP Ws 0).tr.began=0:=by kernel_rfl
theorem k_bc0 (Ws:List Wl):(kP Ws 0).cl.began=0:=by kernel_rfl
theorem k_t1 (Ws:List Wl):(zY (kP Ws 1).tr).2=[0]:=by kernel_rfl
theorem k_c1 (Ws:List Wl):(zY (QY { kP Ws 1 with tr:=(zY (kP Ws 1).tr).1 } (zY (kP Ws 1).tr).2).cl).2=[]:=by kernel_rfl
theorem k_p1 (Ws:List Wl):(Jv (kP Ws 1)).2=[]:=by kernel_rfl
theorem k_bt1 (Ws:List Wl):(kP Ws 1).tr.began=1:=by kernel_rfl
theorem k_bc1 (Ws:List Wl):(kP Ws 1).cl.began=0:=by kernel_rfl
theorem k_t2 (Ws:List Wl):(zY (kP Ws 2).tr).2=[]:=by kernel_rfl
theorem k_c2 (Ws:List Wl):(zY (QY { kP Ws 2 with tr:=(zY (kP Ws 2).tr).1 } (zY (kP Ws 2).tr).2).cl).2=[0]:=by kernel_rfl
theorem k_p2 (Ws:List Wl):(Jv (kP Ws 2)).2=[⟨0,0,1,false⟩]:=by kernel_rfl
theorem k_bt2 (Ws:List Wl):(kP Ws 2).tr.began=1:=by kernel_rfl
theorem k_bc2 (Ws:List Wl):(kP Ws 2).cl.began=1:=by kernel_rfl
theorem k_m2 (Ws:List Wl):(JC (kP Ws 2) 0).isSome=true:=by kernel_rfl
theorem qjH  (hT:Tab w0):qh Tryz.prog w0 19 #[] (H) (fun v H'=>v=.bool true∧H'=H):=by
 refine qc (l:=[]) Tryz.func19 rfl Tryz.ntmps19 rfl rfl ?_
 refine za 4 rfl ?_
 refine qk (zc2 rfl rfl) Tryz.call38 rfl ((qgM (n:=1) (now:=0) zd zd).hsub (.refl _)) ?_
 rintro v H' ⟨lb,Ws,HF0,rfl,hF0,hWl,hfr,rfl⟩
 refine za 10 rfl ?_
 first | rw [decide_eq_true (by omega)] | rw [decide_eq_false (by omega)]
 refine za 5 rfl ?_
 refine qk (zc4 rfl rfl rfl rfl) Tryz.call25 rfl ((qeT hF0 (kind:=1) (entries:=2) (words:=1) zd zd zd zd hT (H:=H)).hsub (.refl _)) ?_
 rintro v H' ⟨HF1,hh,rfl⟩
 obtain ⟨hF1,rfl⟩:qV lb 8 (kF1 Ws) HF1∧v=.tuple #[.int .i64 0,.int .i64 0]:=hh
 refine za 8 rfl ?_
 refine qy (l:=[zu 50]) ZN zJ (.cons rfl rfl rfl rfl rfl .nil) rfl rfl rfl rfl rfl rfl rfl (fun b25=>?_)
 refine qk (zc5 rfl rfl rfl rfl rfl) Tryz.call14 rfl ((hF1.put hT zd (m:=0) (how:=0) (k:=5) (ws:=[50]) zd (fun HZ=>Holds.own (b:=b25) (List.mem_append_right _ List.mem_cons_self)) (capw:=1) (H:=(b25,.cells 30 (1*1) [zu 50])::H)).hsub zH) ?_
 rintro v H' ⟨HF2,hF2,rfl,rfl⟩
 replace hF2:qV lb _ (kF2 Ws) HF2:=hF2
 rw [show (K1 (kF1 Ws) 0 0 5 [50]).2.1=⟨0,1⟩ from congrArg Prod.fst (qoT Ws),show (K1 (kF1 Ws) 0 0 5 [50]).2.2=0 from congrArg Prod.snd (qoT Ws)]
 refine za 3 rfl ?_
 refine qp (l:=hdC zHd) qR rfl rfl (fun b5=>?_)
 refine ql (l':=hdC ⟨0,1⟩) rfl rfl qR rfl rfl (b:=b5) zM (by exact Nat.le_refl 2) rfl zU ?_
 refine za 4 rfl ?_
 refine qJ (vs:=hdC ⟨0,1⟩) rfl qR rfl (b:=b5) zM rfl rfl rfl ?_
 refine qn (zc3 rfl rfl rfl) Tryz.call16 rfl (hF2.number (fun p hp=>by first | exact List.mem_append_left _ hp | exact List.mem_cons_of_mem _ (List.mem_append_left _ hp)) (m:=0) (h:=⟨0,1⟩)) ?_
 rw [k_num]
 refine za 10 rfl ?_
 first | rw [decide_eq_true (by omega)] | rw [decide_eq_false (by omega)]
 refine za 5 rfl ?_
 first | rw [decide_eq_true (by omega)] | rw [decide_eq_false (by omega)]
 refine za 6 rfl ?_
 first | rw [decide_eq_true (by omega)] | rw [decide_eq_false (by omega)]
 refine za 3 rfl ?_
 refine qJ (vs:=hdC ⟨0,1⟩) rfl qR rfl (b:=b5) zM rfl rfl rfl ?_
 refine QD rfl rfl ?_
 refine qX (l:=hdC ⟨0,1⟩) qR qjv (.cons rfl rfl rfl rfl rfl (.cons rfl rfl rfl rfl rfl .nil)) rfl rfl rfl ?_
 refine QD rfl rfl ?_
 refine W_x (ql8 (f:=hdC) rfl rfl qd4 qg4 qau qbM qnD zd) (fun _ h=>by cases h) rfl ?_
 first | rw [decide_eq_false (by decide)] | skip
 refine za 6 rfl ?_
 first | rw [decide_eq_true (by omega)] | rw [decide_eq_false (by omega)]
 refine za 6 rfl ?_
 first | rw [decide_eq_true (by omega)] | rw [decide_eq_false (by omega)]
 refine za 5 rfl ?_
 refine qk (zc3 rfl rfl rfl) Tryz.call17 rfl ((hF2.drop (m:=0) (k:=5) (H:=(b5,.cells 40 2 (hdC ⟨0,1⟩))::H)).hsub zH) ?_
 rintro v H' ⟨HF3,hF3,rfl,rfl⟩
 replace hF3:qV lb _ (kF3 Ws) HF3:=hF3
 rw [qpJ]
 refine za 2 rfl ?_
 first | rw [decide_eq_true (by omega)] | rw [decide_eq_false (by omega)]
 refine za 5 rfl ?_
 refine qk (zc1 rfl) Tryz.call28 rfl ((hF3.dying (by rw [k_dy]; decide) (by rw [k_dy]; decide) (H:=(b5,.cells 40 2 (hdC ⟨0,1⟩))::H)).hsub zH) ?_
 rintro v H' ⟨XD,hOD,rfl⟩
 rw [k_dyK] at hOD
 obtain ⟨adk,capk,rfl,_,_,hrk⟩:=Holds.of_own (w0:=w0) (H:=XD++[]) hOD (fun p hp=>List.mem_append_left _ hp)
 refine QD rfl rfl ?_
 refine qy (l:=[zi 0]) qZ ty3 (.cons rfl rfl rfl rfl rfl .nil) rfl rfl rfl rfl rfl rfl rfl (fun b66=>?_)
 refine QD rfl rfl ?_
 refine qn (zc2 rfl rfl) Tryz.call46 rfl (qpe (l:=[0]) (r:=[0]) (hrk.up zH) (Holds.own (b:=b66) zM) zd) ?_
 rw [decide_eq_true (rfl:([0]:List Int)=[0])]
 refine za 8 rfl ?_
 refine qk (zc1 rfl) Tryz.call18 rfl ((qV.poll (F0:=kP Ws 0) hF3 (by rw [k_bt0]; decide) (by rw [k_bc0]; decide) (by rw [k_t0]; intro z hz; cases hz) (by rw [k_c0]; intro z hz; cases hz) hT (H:=H)).hsub zH) ?_
 rintro v H' ⟨HP1,XP1,hP1,hO1,rfl⟩
 replace hP1:qV lb _ (kP Ws 1) HP1:=hP1
 rw [k_p0] at hO1
 obtain ⟨ad1,cap1,rfl,_,_,_⟩:=Holds.of_own (w0:=w0) (H:=XP1++[]) hO1 (fun p hp=>List.mem_append_left _ hp)
 refine qD rfl rfl ?_
 refine qk (zc1 rfl) Tryz.call18 rfl ((qV.poll (F0:=kP Ws 1) hP1 (by rw [k_bt1]; decide) (by rw [k_bc1]; decide) (by rw [k_t1]; intro z hz; obtain rfl:=List.mem_singleton.1 hz; decide) (by rw [k_c1]; intro z hz; cases hz) hT (H:=H)).hsub zH) ?_
 rintro v H' ⟨HP2,XP2,hP2,hO2,rfl⟩
 replace hP2:qV lb _ (kP Ws 2) HP2:=hP2
 rw [k_p1] at hO2
 obtain ⟨ad2,cap2,rfl,_,_,_⟩:=Holds.of_own (w0:=w0) (H:=XP2++[]) hO2 (fun p hp=>List.mem_append_left _ hp)
 refine qD rfl rfl ?_
 refine qk (zc1 rfl) Tryz.call18 rfl ((qV.poll (F0:=kP Ws 2) hP2 (by rw [k_bt2]; decide) (by rw [k_bc2]; decide) (by rw [k_t2]; intro z hz; cases hz) (by rw [k_c2]; intro z hz; obtain rfl:=List.mem_singleton.1 hz; exact ⟨by decide,k_m2 Ws⟩) hT (H:=H)).hsub zH) ?_
 rintro v H' ⟨HP3,XP3,hP3,hO3,rfl⟩
 replace hP3:qV lb _ (kP Ws 3) HP3:=hP3
 rw [k_p2] at hO3
 obtain ⟨bg,capg,rfl,rfl⟩:∃ bg capg,v=.slice (some ⟨bg,0,none⟩) 1 capg∧XP3=[(bg,.cells 50 (capg*4) (gnC ⟨0,0,1,false⟩))]:=by
  cases hO3 with
  | own=>exact ⟨_,_,rfl,rfl⟩
 refine za 6 rfl (zZ rfl qbB rfl rfl (za 1 rfl ?_))
 rw [decide_eq_true (by decide)]
 refine za 4 rfl (zZ rfl qbB rfl rfl (za 2 rfl ?_))
 rw [decide_eq_true (by decide)]
 refine za 5 rfl (zZ rfl qbB rfl rfl (za 2 rfl ?_))
 first | rw [decide_eq_true (by omega)] | rw [decide_eq_false (by omega)]
 refine za 5 rfl ?_
 refine qS (j:=0) rfl rfl qbB KQ rfl zd rfl rfl ?_
 refine QD rfl rfl ?_
 refine qJ (vs:=gnC ⟨0,0,1,false⟩) rfl KQ rfl (b:=bg) zM rfl rfl rfl ?_
 refine QD rfl rfl ?_
 refine qX (l:=gnC ⟨0,0,1,false⟩) KQ qhH (.cons rfl rfl rfl rfl rfl (.cons rfl rfl rfl rfl rfl (.cons rfl rfl rfl rfl rfl .nil))) rfl rfl rfl ?_
 refine QD rfl rfl ?_
 refine W_x (qoW (f:=gnC) rfl rfl qpM agg50 qjX qnF gt50 zd) (fun _ h=>by cases h) rfl ?_
 refine za 3 rfl ?_
 refine qd (H2:=H) Tryz.results19 rfl (.nil _) zH ?_
 exact ⟨rfl,rfl⟩
theorem qeR:Qx Tryz.prog Tab 19 [] (.bool true):=fun w0 H hT=>qjH hT
end Go.Proofs.YtincjohoncljoaaGreatDoor
namespace Go.Proofs.YtincjohoncljoaaGreatDoor
open Go Go.Sl Go.ChangeShapes Go.WideShapes Go.ChangeAt Go.RowKit
set_option maxRecDepth 100000
variable {k lb T i pb n a:Nat} {F:Lf} {HF H:qg} {w0:World} {p cpu:Int} {Q:List (Int × Int)} {x:Xm} {Ws Ws':List Wl}
theorem own:ownKnob Tryz.prog.godebug=none:=by kernel_rfl
theorem kids:Kids Tryz.prog (·<Tryz.prog.types.size):=kids_rows zk zk
theorem full:∀ t e,t<Tryz.prog.types.size→Tryz.prog.underlying t=some (.slice e)→0<Tryz.prog.cellsOf e:=slices_full_of Tryz.prog zk
theorem u4:Tryz.prog.underlying 4=some .bool:=by kernel_rfl
theorem u3:Tryz.prog.underlying 3=some (.int .i64):=by kernel_rfl
theorem u30:Tryz.prog.underlying 30=some (.int .u64):=by kernel_rfl
theorem u590:Tryz.prog.underlying 590=some (.array 64 5):=by kernel_rfl
theorem u5:Tryz.prog.underlying 5=some (.int .u8):=by kernel_rfl
theorem gDz:Tryz.prog.globalNamed "math/bits.deBruijn64tab"=some 0:=by kernel_rfl
theorem tDz:(Tryz.prog.globals[0]?).map (·.type)=some 590:=by kernel_rfl
abbrev qjP:List (String × DataW Unit):=[("math/bits.deBruijn64tab",Rows.laid_math_bits_deBruijn64tab)]
theorem qiZ {W:World} (h:laidMetH Tryz.prog qjP W):Tab W:=fun j hj=>by
 have h1:Lib.TabIs Tryz.prog W "math/bits.deBruijn64tab" .u8 (Lib.deBruijn64tab.map fun z:Nat=>(z:Int)):=Lib.tabIs_of_head (rest:=[]) gDz tDz u590 u5 zk zk (show laidMet Tryz.prog qjP W from h)
 have h2:=h1.cell gDz j (by rw [List.length_map]; exact hj)
 rw [h2]
 rw [List.getD_eq_getElem?_getD,List.getD_eq_getElem?_getD,List.getElem?_map]
 cases Lib.deBruijn64tab[j]? <;> rfl
theorem qdW {P:Program} {f:FuncId} {fn:Func} {s:ChangeSpec} {c:OpenClaim}
 (h1:c.wf (OpenSpec.ofChange s)=true) (h2:laidOutB P=true) (h3:mapsRowed P=true) (h4:fn.params.all (P.readableRec ·)=true) (h5:namedTie P c.named s.vars=true) (h6:(c.stops == [])=true) (h7:(P.stops == [])=true) (h8:(c.knobs == [])=true) (h9:(P.stopKnobs == [])=true)
 (h10:(c.inPlace == P.inPlace f)=true) (h11:(c.unfollowed == P.unfollowed f)=true) (h12:(c.recurses == P.recurses f)=true) (h13:(c.named == P.varsNamed f)=true)
 (h14:(c.maps == (fn.params.toList++s.plain.varTypes P).any (P.mapsRec ·))=true) (h15:(c.ifaces == (fn.params.toList++s.plain.varTypes P).any (P.ifacesRec ·))=true) (h16:(c.mapsOut == P.mapsAmong fn.resultTypes.toList)=true)
 (h17:(c.loops == (fn.params.toList++s.plain.varTypes P).any (P.loopsFrom ·))=true) (h18:(c.wideKeys == (fn.params.toList++s.plain.varTypes P++fn.resultTypes.toList).any (P.wideKeysFrom ·))=true)
 (h19:s.vars.all (P.varReadable ·)=true) (h20:fn.resultTypes.all (fun t=>P.readableRec t && decide (t<P.types.size))=true) (h21:(c.ifacesOut == fn.resultTypes.toList.any (P.ifacesRec ·))=true) (h22:(c.loopsOut == fn.resultTypes.toList.any (P.loopsFrom ·))=true) (h23:(c.plainKeys == P.plainKeys)=true) (h24:c.shortTexts.isNone=true) (h25:P.stopsHeard=true) (h26:P.mayEnter=true) (h27:(c.lifted == P.liftsFinal)=true) (h28:(P.make == some c.make)=true)
 (h29:(c.kinds == (if c.domain.isEmpty then [] else fn.params.toList.map fun t=>match P.underlying t with | some (.int k)=>some k | _=>none))=true) (h30:(c.pinned == c.pinnedBy)=true)
 (h31:(c.veiled == (fn.params.toList++s.plain.varTypes P++fn.resultTypes.toList).any (P.veiledRec ·))=true) (h32:c.veiledFits P fn.params.toList (fn.params.toList++s.plain.varTypes P++fn.resultTypes.toList)=true):joinedFacts P f fn s c=true:=by
 unfold joinedFacts
 simp only [Bool.and_eq_true]
 and_intros <;> assumption
theorem qge {α:Type} {l:List α} {p:α→Bool} {m:Nat} (hm:0<m) (hl:l.length≤m*k) (h:∀ j,j<k→((l.drop (m*j)).take m).any p=false):l.any p=false:=by
 rw [List.any_eq_false]
 intro x hx
 obtain ⟨i,hi,rfl⟩:=List.getElem_of_mem hx
 have hj:i/m<k:=Nat.div_lt_of_lt_mul zO
 refine List.any_eq_false.1 (h _ hj) _ (List.mem_of_getElem? (i:=i%m) ?_)
 rw [List.getElem?_take,if_pos (Nat.mod_lt _ hm),List.getElem?_drop,Nat.div_add_mod,List.getElem?_eq_getElem hi]
theorem qhX {P:Program} {c:OpenClaim} (h:P.funcs.toList.any Func.goes=false) (hs:c.start=.entering):false=c.goesBy P:=by
 rw [List.any_eq_false] at h
 have hg:∀ f,P.goes f=false:=fun f=>by
  unfold Program.goes
  have h1:((P.closure f).any fun g=>(P.funcs[g]?).any Func.goes)=false:=by
   rw [List.any_eq_false]
   intro g _ hh
   cases e:P.funcs[g]? with
   | none=>rw [e] at hh; cases hh
   | some fn =>
    rw [e] at hh
    exact h fn (by obtain ⟨hb,rfl⟩:=Array.getElem?_eq_some_iff.1 e; exact Array.getElem_mem_toList hb) hh
  have h2:P.funcs.any Func.goes=false:=by
   rw [← Array.any_toList,List.any_eq_false]; exact h
  rw [h1,h2,Bool.and_false]; rfl
 unfold OpenClaim.goesBy Program.goesAt Program.goesFrom
 rw [hs]
 cases P.funcNamed c.func with
 | none=>rfl
 | some f=>show false=(P.goes f || false); rw [hg]; rfl
theorem qpr:laidOutB Tryz.prog=true:=by kernel_rfl
theorem qne:mapsRowed Tryz.prog=true:=by kernel_rfl
theorem qnd:(Tryz.prog.stops == [])=true:=by kernel_rfl
theorem qnf:(Tryz.prog.stopKnobs == [])=true:=by kernel_rfl
theorem qng:Tryz.prog.stopsHeard=true:=by kernel_rfl
theorem qnh:Tryz.prog.mayEnter=true:=by kernel_rfl
theorem qpq:Tryz.prog.funcs.toList.length≤60*9:=by decide +kernel
theorem p_g0:((Tryz.prog.funcs.toList.drop (60*0)).take 60).any Func.goes=false:=by kernel_rfl
theorem p_g1:((Tryz.prog.funcs.toList.drop (60*1)).take 60).any Func.goes=false:=by kernel_rfl
theorem p_g2:((Tryz.prog.funcs.toList.drop (60*2)).take 60).any Func.goes=false:=by kernel_rfl
theorem p_g3:((Tryz.prog.funcs.toList.drop (60*3)).take 60).any Func.goes=false:=by kernel_rfl
theorem p_g4:((Tryz.prog.funcs.toList.drop (60*4)).take 60).any Func.goes=false:=by kernel_rfl
theorem p_g5:((Tryz.prog.funcs.toList.drop (60*5)).take 60).any Func.goes=false:=by kernel_rfl
theorem p_g6:((Tryz.prog.funcs.toList.drop (60*6)).take 60).any Func.goes=false:=by kernel_rfl
theorem p_g7:((Tryz.prog.funcs.toList.drop (60*7)).take 60).any Func.goes=false:=by kernel_rfl
theorem p_g8:((Tryz.prog.funcs.toList.drop (60*8)).take 60).any Func.goes=false:=by kernel_rfl
theorem qps:Tryz.prog.funcs.toList.any Func.goes=false:=qge zd qpq fun j hj=>by
 match j,hj with
 | 0,_=>exact p_g0
 | 1,_=>exact p_g1
 | 2,_=>exact p_g2
 | 3,_=>exact p_g3
 | 4,_=>exact p_g4
 | 5,_=>exact p_g5
 | 6,_=>exact p_g6
 | 7,_=>exact p_g7
 | 8,_=>exact p_g8
 | n+9,h=>exact absurd h zO
noncomputable def laidWorld (os:Os):World :=
 let w0:=World.holding Tryz.prog os ⟨#[],#[],[]⟩
 let put (h:Array Obj) (g:Nat) (cs:Array Value):Array Obj:=h.modify g fun
  | .cells _ t frozen=>.cells cs t frozen
  | o=>o
 { w0 with heap:=put w0.heap 0 (Lib.deBruijn64tab.map fun z:Nat=>Value.int .u8 (z:Int)).toArray }
theorem qjO (os:Os) (args:Array Value):laidMet Tryz.prog qjP ((laidWorld os).forCall (fun _ _=>0) ⟨#[],args,[]⟩).memory :=
 laidMet_of_run' 8 zk zk
def inF (F:Lf) (z:Int):Lf × Int:=({ F with At:=(onA JJ F.At z).1 },(onA JJ F.At z).2)
theorem qV.timers (hF:qV lb T F HF):∃ tb:Nat,(∀ (w0:World) (H:qg),(∀ p∈HF,p∈H)→qB Tryz.prog w0 H 21 [zp lb] (zp tb))∧∀ (w0:World) (H:qg) (id:Int),qh Tryz.prog w0 22 #[zp tb,zi id] (HF++H) (fun v H'=>∃ HF',qV lb T (inF F id).1 HF'∧v=zi (inF F id).2∧H'=HF'++H):=by
 cases hF with
 | @mk tb wb g1 g2 rb db M HT HW H1 H2 HR HD HM hT hO hW h1 o1 h2 o2 hR hU hD hM =>
 refine ⟨tb,fun w0 H hs=>Xi (hs _ List.mem_cons_self) hM.m4,fun w0 H id=>?_⟩
 have e0:((lb,.cells 134 15 (qu F.n M tb wb g1 g2 rb db))::(HT++(HW++(H1++(H2++(HR++(HD++HM.flatten)))))))++H=(lb,.cells 134 15 (qu F.n M tb wb g1 g2 rb db))::(HT++(HW++(H1++(H2++(HR++(HD++(HM.flatten++H))))))):=by simp only [List.cons_append,List.append_assoc]
 rw [e0]
 refine qh.sub ((qqu (id:=id) hT (H:=(lb,.cells 134 15 (qu F.n M tb wb g1 g2 rb db))::(HW++(H1++(H2++(HR++(HD++(HM.flatten++H)))))))).hsub zH) ?_
 rintro v H' ⟨HT2,hT2,rfl,rfl⟩
 refine ⟨_,?_,(lb,.cells 134 15 (qu F.n M tb wb g1 g2 rb db))::(HT2++(HW++(H1++(H2++(HR++(HD++HM.flatten)))))),.mk (F:=(inF F id).1) hT2 (hO.onA (fun o=>by unfold JJ; split; rfl; split <;> rfl) id) hW h1 o1 h2 o2 hR hU hD hM,rfl,rfl⟩
 simp only [List.cons_append,List.append_assoc]
 exact zH
theorem qV.users (hF:qV lb T F HF) (hs:∀ p∈HF,p∈H) :qB Tryz.prog w0 H 24 [zp lb,zi p] (zi (qec F.us p)):=by
 cases hF with
 | @mk tb wb g1 g2 rb db M HT HW H1 H2 HR HD HM hT hO hW h1 o1 h2 o2 hR hU hD hM =>
 exact qjQ (hs _ List.mem_cons_self) hM.m4 hR (fun p hp=>hs p (List.mem_cons_of_mem _ (List.mem_append_right _ (List.mem_append_right _ (List.mem_append_right _ (List.mem_append_right _ (List.mem_append_left _ hp)))))))
def usR (p:Int) (i:Nat):List (Int × Cnt):=if i=0 then [] else [(p,⟨if i<8 then (i:Int) else 8,8,decide (8<i)⟩)]
theorem qeW (p:Int) (c:Cnt):qaw [(p,c)] p=some c:=by unfold qaw; simp
theorem qi6 (p:Int) (c d:Cnt):qb6 [(p,c)] p d=[(p,d)]:=by unfold qb6; simp
theorem qnC (p:Int) (i:Nat):Zi (usR p i) 8 p=(usR p (i+1),if i<8 then 0 else 13):=by
 unfold usR
 rw [if_neg (Nat.succ_ne_zero i)]
 by_cases h0:i=0
 ·subst h0; rfl
 ·rw [if_neg h0]
  unfold Zi
  rw [qeW]; dsimp only; rw [qi6]
  unfold XE
  by_cases h8:i<8
  ·rw [if_pos h8,if_pos h8]
   dsimp only
   rw [if_neg (by omega),if_neg (by omega),decide_eq_false (by omega),if_neg (by decide)]
   by_cases h7:i+1<8
   ·rw [if_pos h7,decide_eq_false (by omega)]; rfl
   ·obtain rfl:i=7:=by omega
    rfl
  ·rw [if_neg h8,if_neg h8,if_neg (show ¬ i+1<8 by omega)]
   dsimp only
   rw [if_neg (show ¬ (8:Int)=0 by decide),if_pos (rfl:(8:Int)=8),decide_eq_true (show 8<i+1 by omega)]
theorem qgw (p:Int) (i:Nat) (was:Int):Zl (usR p i) p was false=(usR p (i+1),if i<8 then 0 else 13):=by
 unfold Zl; rw [qnC]
 by_cases h:i<8
 ·rw [if_pos h]; rfl
 ·rw [if_neg h]; rfl
theorem qpU (p:Int) (i:Nat):qec (usR p i) p=if i<8 then (i:Int) else 8:=by
 unfold usR qec
 by_cases h0:i=0
 ·subst h0; rfl
 ·rw [if_neg h0,qeW]
theorem wk_is {o:ZL} (hi:i<64) (hp:0≤p∧p<16) (ho:F.Aw[i]?=some o) (hs:o.shut=false) (hn:¬ (0<o.prog∧max (o.prog-1) 0=p)):wkF F (i:Int) p=(if (Zl F.us p (max (o.prog-1) 0) (decide (0<o.prog))).2≠0 then ({ F with us:=(Zl F.us p (max (o.prog-1) 0) (decide (0<o.prog))).1 },(Zl F.us p (max (o.prog-1) 0) (decide (0<o.prog))).2) else ({ F with us:=(Zl F.us p (max (o.prog-1) 0) (decide (0<o.prog))).1,Aw:=F.Aw.set i ⟨false,p+1⟩ },0)):=by
 have hof:ofW F.Aw (i:Int)=o:=Xx zO ho
 have hst:¬ stateW F.Qw F.Aw (i:Int)=3:=by
  unfold stateW; rw [hof,hs]
  rw [if_neg (by decide)]
  split
  ·decide
  ·split <;> decide
 unfold wkF
 rw [if_neg (fun h=>h ⟨⟨by omega,by omega⟩,hp⟩),if_neg hst,hof,if_neg hn,Int.toNat_natCast]
 have e:Xw p o=(⟨false,p+1⟩,0):=by unfold Xw; rw [hs,if_neg (by decide)]
 rw [e]
theorem cb_is {o:Qn} (hi:i<64) (hp:0≤p∧p<16) (ho:F.At[i]?=some o) (hs:o.shut=false) (hmd:o.made=true) (hn:¬ (0<o.prog∧max (o.prog-1) 0=p)):cbF F (i:Int) p=(if (Zl F.us p (max (o.prog-1) 0) (decide (0<o.prog))).2≠0 then ({ F with us:=(Zl F.us p (max (o.prog-1) 0) (decide (0<o.prog))).1 },(Zl F.us p (max (o.prog-1) 0) (decide (0<o.prog))).2) else ({ F with us:=(Zl F.us p (max (o.prog-1) 0) (decide (0<o.prog))).1,At:=F.At.set i { o with prog:=p+1 } },0)):=by
 have hof:ofA F.At (i:Int)=o:=qaZ zO ho
 have hst:¬ stateA F.Ws F.Qt F.At (i:Int)=4∧¬ stateA F.Ws F.Qt F.At (i:Int)=0:=by
  unfold stateA Xv; rw [hof,hs,hmd,if_neg (by decide),if_neg (by decide)]
  split
  ·decide
  ·split <;> decide
 unfold cbF
 rw [if_neg (fun h=>h ⟨⟨by omega,by omega⟩,hp⟩),if_neg hst.1,if_neg hst.2,hof,if_neg hn]
 have e:setA F.At (i:Int) p=(F.At.set i { o with prog:=p+1 },0):=by
  unfold setA; rw [if_pos hp,qdO (by omega) ho]; unfold setO; rw [hs,hmd,if_neg (by decide),if_neg (by decide)]
 rw [e]
theorem modL (z:Int) {N:Nat} (h:0<N):∃ n:Nat,n<N∧(IntKind.u64.wrap z).tmod N=(n:Int):=by
 have e:IntKind.u64.wrap z=z%18446744073709551616:=by simp [IntKind.wrap,IntKind.signed,IntKind.bits]
 have h0:0≤IntKind.u64.wrap z:=by rw [e]; omega
 refine ⟨(IntKind.u64.wrap z%N).toNat,?_,?_⟩
 ·have:=Int.emod_lt_of_pos (IntKind.u64.wrap z) (show (0:Int)<N by omega)
  have:=Int.emod_nonneg (IntKind.u64.wrap z) (show (N:Int)≠0 by omega)
  omega
 ·rw [Int.tmod_eq_emod_of_nonneg h0]
  have:=Int.emod_nonneg (IntKind.u64.wrap z) (show (N:Int)≠0 by omega)
  omega
def sF (n:Nat) (Ws:List Wl):Lf:={ lf0 n Ws with ms:=[some (Xm.new 1 8 1,false),none,none,none] }
theorem qmP (z:Int) (hT:Tab w0):qh Tryz.prog w0 9 #[zi z] (H) (fun v H'=>∃ n lb Ws HF,n<4∧v=.tuple #[zp lb,.bool true]∧qV lb 8 (sF (n+1) Ws) HF∧Ws.length=n+1∧(∀ w∈Ws,XW 0 w)∧H'=HF++H):=by
 obtain ⟨n,hn4,hn⟩:=modL z (N:=4) zd
 refine qc (l:=[zi z]) Tryz.func9 rfl Tryz.ntmps9 rfl rfl ?_
 refine za 6 rfl ?_
 refine Jh (m:=IntKind.u64.wrap z) rfl ty3 zJ rfl rfl ?_
 refine qE rfl rfl (YK zd (m:=(n:Int)) hn) rfl ?_
 refine Jh rfl zJ ty3 (zg zO) rfl ?_
 refine qE rfl rfl (qQ (m:=((n+1:Nat):Int)) (by rw [zg (by omega)]; omega)) rfl ?_
 refine qk (zc2 rfl rfl) Tryz.call38 rfl ((qgM (n:=n+1) (now:=0) zO zd).hsub (.refl _)) ?_
 rintro v H' ⟨lb,Ws,HF0,rfl,hF0,hWl,hfr,rfl⟩
 refine za 10 rfl ?_
 first | rw [decide_eq_true (by omega)] | rw [decide_eq_false (by omega)]
 refine za 5 rfl ?_
 refine qk (zc4 rfl rfl rfl rfl) Tryz.call25 rfl ((qeT hF0 (kind:=1) (entries:=8) (words:=1) zd zd zd zd hT (H:=H)).hsub (.refl _)) ?_
 rintro v H' ⟨HF1,hh,rfl⟩
 obtain ⟨hF1,rfl⟩:qV lb 8 (sF (n+1) Ws) HF1∧v=.tuple #[.int .i64 0,.int .i64 0]:=hh
 refine za 10 rfl ?_
 first | rw [decide_eq_true (by omega)] | rw [decide_eq_false (by omega)]
 refine za 5 rfl ?_
 first | rw [decide_eq_true (by omega)] | rw [decide_eq_false (by omega)]
 refine za 4 rfl ?_
 refine qL (H2:=HF1++H) Tryz.results9 rfl rfl (.nil _) zH ?_
 exact ⟨n,lb,Ws,HF1,hn4,rfl,hF1,hWl,hfr,rfl⟩
theorem qo5 {A:List ZL} {on:List Int} (h:A.length=256) (ho:on.length=32):((q8 pb n A on).drop 514).take 32=on.map (Value.int .i64):=by
 unfold q8
 have hl:=zt JR A
 rw [show (514:Nat)=(A.flatMap woC).length+1+1 by rw [hl,h],List.drop_succ_cons,List.drop_succ_cons,List.drop_left,List.take_of_length_le (by rw [List.length_map,ho]; exact Nat.le_refl _)]
theorem on_at (h:i<32):(((List.replicate 32 (0:Int)).map (Value.int .i64)).toArray)[i*1]?=some (zi 0):=by
 rw [Nat.mul_one,List.getElem?_toArray,List.getElem?_map,List.getElem?_replicate,if_pos h]; rfl
theorem qiO {wb:Nat} {As:List ZL} (hm:(wb,.cells 179 546 (q8 pb n As (List.replicate 32 0)))∈H) (hA:As.length=256) (hk:k<n) (hn:n≤64) :qB Tryz.prog w0 H 104 [zp wb,zi (k:Int)] (zi 0):=by
 refine qc Tryz.func104 rfl Tryz.ntmps104 rfl rfl (za 9 rfl ?_)
 refine W_x (zz rfl rfl Jn) (fun _ h=>by cases h) rfl ?_
 refine za 5 rfl ?_
 first | rw [decide_eq_true (by omega)] | rw [decide_eq_false (by omega)]
 refine za 11 rfl ?_
 refine qe (v:=zi (n:Int)) rfl ty3 rfl (qf.own (b:=wb) hm rfl) rfl ?_
 refine za 2 rfl ?_
 first | rw [decide_eq_true (by omega)] | rw [decide_eq_false (by omega)]
 refine za 7 rfl ?_
 refine qJ (vs:=(List.replicate 32 (0:Int)).map (Value.int .i64)) rfl qfu rfl (b:=wb) hm (by rw [Nat.ble_eq,qdA,hA]; decide) (qo5 hA (by decide)) rfl ?_
 refine za 3 rfl ?_
 refine qU (X:=Nat) [(1,_),(25,_)] (fun (i:Nat)=>[(5,zi 0),(26,zi (i:Int))]) (fun _=>_) (fun (i:Nat)=>H) (fun (i:Nat)=>i≤32) (fun (i:Nat)=>32-i) 0 (Nat.zero_le _) (qa rfl (qa rfl (qi _))) (qa rfl (qa rfl (qi _))) rfl zH ?_
 rintro i hi
 simp only [List.cons_append,List.nil_append]
 refine za 4 rfl ?_
 refine qm (p:=(i:Int)<32) rfl (by simp) (fun q0=>?_) (fun q0=>?_)
 ·skip
  refine za 4 rfl ?_
  refine qcX (j:=i) rfl rfl qfu ty3 rfl rfl zO (on_at zO) rfl ?_
  refine za 5 rfl ?_
  refine qE rfl rfl (qQ (m:=((k+1:Nat):Int)) (zg zO)) rfl ?_
  refine za 1 rfl ?_
  first | rw [decide_eq_true (by omega)] | rw [decide_eq_false (by omega)]
  refine za 5 rfl ?_
  refine qE rfl rfl (qQ (m:=((i+1:Nat):Int)) ((zg zO).trans zO)) rfl ?_
  refine za 2 rfl ?_
  refine qP (i+1) zO zO (qa rfl (qa rfl (qa rfl (qa rfl (qi _))))) rfl zH
 ·skip
  refine za 5 rfl ?_
  refine qd (H2:=H) Tryz.results104 rfl (.nil _) zH ?_
  exact ⟨rfl,rfl⟩
theorem qdu (hk:k<n) (he:QQ Q (k:Int)=[]):qbf n Q [] (k:Int) ((1:Nat):Int)=(Q,[],0,4):=by
 unfold qbf
 simp [he,hk,ofR,inR]
theorem qft {wb:Nat} {HP:qg} {As:List ZL} (hP:zb pb n Q [] HP) (hn:n≤64) (hA:As.length=256) (hk:k<n) (he:QQ Q (k:Int)=[]) :qh Tryz.prog w0 37 #[zp wb,zi (k:Int),zi 1] ((wb,.cells 179 546 (q8 pb n As (List.replicate 32 0)))::(HP++H)) (fun v H'=>∃ HP2,zb pb n Q [] HP2∧v=.tuple #[zi 0,zi 0,zi 4]∧H'=(wb,.cells 179 546 (q8 pb n As (List.replicate 32 0)))::(HP2++H)):=by
 refine qc (l:=[zp wb,zi (k:Int),zi 1]) Tryz.func37 rfl Tryz.ntmps37 rfl rfl ?_
 refine za 8 rfl ?_
 refine W_x (qr rfl rfl Jn) (fun _ h=>by cases h) rfl ?_
 refine za 7 rfl ?_
 refine qe (v:=zp pb) rfl Zf rfl (qf.own (b:=wb) zM rfl) rfl ?_
 refine qD rfl rfl ?_
 refine qn (zc2 rfl rfl) Tryz.call103 rfl (hP.Of_q (fun p hp=>List.mem_cons_of_mem _ (List.mem_append_left _ hp))) ?_
 rw [show ofR ([]:List (Int × Int)) 1=none from rfl]
 show W _ _ _ _ _ _ _ ((_,.tuple #[zi 0,.bool false])::_) _
 refine za 10 rfl ?_
 first | rw [decide_eq_true (by omega)] | rw [decide_eq_false (by omega)]
 refine za 5 rfl ?_
 first | rw [decide_eq_true (by omega)] | rw [decide_eq_false (by omega)]
 refine za 13 rfl (qn (zc2 rfl rfl) Tryz.call104 rfl (qiO List.mem_cons_self hA hk hn) (za 2 rfl ?_))
 first | rw [decide_eq_true (by omega)] | rw [decide_eq_false (by omega)]
 refine za 8 rfl ?_
 refine qe (v:=zp pb) rfl Zf rfl (qf.own (b:=wb) zM rfl) rfl ?_
 refine za 2 rfl ?_
 refine qk (zc3 rfl rfl rfl) Tryz.call102 rfl ((qcZ (H:=(wb,.cells 179 546 (q8 pb n As (List.replicate 32 0)))::H) hP hn (j:=1) hk zd rfl he).hsub zH) ?_
 rintro v H' ⟨HP2,hP2,rfl,rfl⟩
 have eb:=qdu hk he
 rw [show (qbf n Q [] (k:Int) ((1:Nat):Int)).2.2.2=4 by rw [eb],show (qbf n Q [] (k:Int) ((1:Nat):Int)).2.2.1=0 by rw [eb]]
 rw [eb] at hP2
 refine za 10 rfl ?_
 first | rw [decide_eq_true (by omega)] | rw [decide_eq_false (by omega)]
 refine za 8 rfl ?_
 refine qg9 (H2:=(wb,.cells 179 546 (q8 pb n As (List.replicate 32 0)))::(HP2++H)) Tryz.results37 rfl rfl rfl (.nil _) zH ?_
 exact ⟨HP2,hP2,rfl,rfl⟩
theorem qfz {tb bb:Nat} {HP:qg} {As:List Qn} (hP:zb pb n Q [] HP) (hn:n≤64) (hk:k<n) (he:QQ Q (k:Int)=[]) :qh Tryz.prog w0 36 #[zp tb,zi (k:Int),zi 1] ((tb,.cells 170 1026 (qH pb bb As))::(HP++H)) (fun v H'=>∃ HP2,zb pb n Q [] HP2∧v=.tuple #[zi 0,zi 0,zi 4]∧H'=(tb,.cells 170 1026 (qH pb bb As))::(HP2++H)):=by
 refine qc (l:=[zp tb,zi (k:Int),zi 1]) Tryz.func36 rfl Tryz.ntmps36 rfl rfl ?_
 refine za 7 rfl ?_
 refine qn (zc1 rfl) Tryz.call101 rfl (qgP (pb:=pb) (bb:=bb) (As:=As) zM) ?_
 refine za 2 rfl ?_
 refine qk (zc3 rfl rfl rfl) Tryz.call102 rfl ((qcZ (H:=(tb,.cells 170 1026 (qH pb bb As))::H) hP hn (j:=1) hk zd rfl he).hsub zH) ?_
 rintro v H' ⟨HP2,hP2,rfl,rfl⟩
 have eb:=qdu hk he
 rw [show (qbf n Q [] (k:Int) ((1:Nat):Int)).2.2.2=4 by rw [eb],show (qbf n Q [] (k:Int) ((1:Nat):Int)).2.2.1=0 by rw [eb]]
 rw [eb] at hP2
 refine za 10 rfl ?_
 first | rw [decide_eq_true (by omega)] | rw [decide_eq_false (by omega)]
 refine za 8 rfl ?_
 refine qg9 (H2:=(tb,.cells 170 1026 (qH pb bb As))::(HP2++H)) Tryz.results36 rfl rfl rfl (.nil _) zH ?_
 exact ⟨HP2,hP2,rfl,rfl⟩
theorem qV.tStart (hF:qV lb T F HF) (hTl:T≤1000000):∃ tb:Nat,(∀ (w0:World) (H:qg),(∀ p∈HF,p∈H)→qB Tryz.prog w0 H 21 [zp lb] (zp tb))∧∀ (w0:World) (H:qg) (id cpu:Int) (a:Nat),a≤18446744073709551615→qh Tryz.prog w0 31 #[zp tb,zi id,zi cpu,zu ((a:Nat):Int)] (HF++H) (fun v H'=>∃ Ws' Q' As' s e HF',XU F.n F.Ws F.Qt F.At id cpu a Ws' Q' As' s e∧qV lb (T+1) { F with Ws:=Ws',Qt:=Q',At:=As' } HF'∧v=.tuple #[.agg (Qu.v s).toArray,zi e]∧H'=HF'++H):=by
 cases hF with
 | @mk tb wb g1 g2 rb db M HT HW H1 H2 HR HD HM hT hO hW h1 o1 h2 o2 hR hU hD hM =>
 refine ⟨tb,fun w0 H hs=>Xi (hs _ List.mem_cons_self) hM.m4,?_⟩
 have e0:∀ H:qg,((lb,.cells 134 15 (qu F.n M tb wb g1 g2 rb db))::(HT++(HW++(H1++(H2++(HR++(HD++HM.flatten)))))))++H=(lb,.cells 134 15 (qu F.n M tb wb g1 g2 rb db))::(HT++(HW++(H1++(H2++(HR++(HD++(HM.flatten++H))))))):=fun H=>by simp only [List.cons_append,List.append_assoc]
 intro w0 H id cpu a ha
 rw [e0]
 refine qh.sub ((qol (id:=id) (cpu:=cpu) hT hO hTl ha (H:=(lb,.cells 134 15 (qu F.n M tb wb g1 g2 rb db))::(HW++(H1++(H2++(HR++(HD++(HM.flatten++H)))))))).hsub zH) ?_
 rintro v H' ⟨Ws',Q',As',s,e,HT2,hS,hT2,hO2,rfl,rfl⟩
 refine ⟨_,?_,Ws',Q',As',s,e,(lb,.cells 134 15 (qu F.n M tb wb g1 g2 rb db))::(HT2++(HW++(H1++(H2++(HR++(HD++HM.flatten)))))),hS,.mk (F:={ F with Ws:=Ws',Qt:=Q',At:=As' }) hT2 hO2 hW h1 o1 h2 o2 hR hU hD (hM.up (Nat.le_add_right T 1)),rfl,rfl⟩
 simp only [List.cons_append,List.append_assoc]
 exact zH
theorem qV.tCatch (hF:qV lb T F HF):∃ tb:Nat,(∀ (w0:World) (H:qg),(∀ p∈HF,p∈H)→qB Tryz.prog w0 H 21 [zp lb] (zp tb))∧∀ (w0:World) (H:qg) (cpu:Int) (a:Nat),a≤18446744073709551615→Tab w0→qh Tryz.prog w0 32 #[zp tb,zi cpu,zu ((a:Nat):Int)] (HF++H) (fun v H'=>∃ (Ws':List Wl) (O:List Tm) (HF':qg),ZR F.Ws cpu a Ws' O∧qV lb T { F with Ws:=Ws',Qt:=(Za F.n F.Qt cpu (O.map (·.id))).1 } HF'∧H'=HF'++H):=by
 cases hF with
 | @mk tb wb g1 g2 rb db M HT HW H1 H2 HR HD HM hT hO hW h1 o1 h2 o2 hR hU hD hM =>
 refine ⟨tb,fun w0 H hs=>Xi (hs _ List.mem_cons_self) hM.m4,?_⟩
 have e0:∀ H:qg,((lb,.cells 134 15 (qu F.n M tb wb g1 g2 rb db))::(HT++(HW++(H1++(H2++(HR++(HD++HM.flatten)))))))++H=(lb,.cells 134 15 (qu F.n M tb wb g1 g2 rb db))::(HT++(HW++(H1++(H2++(HR++(HD++(HM.flatten++H))))))):=fun H=>by simp only [List.cons_append,List.append_assoc]
 intro w0 H cpu a ha hTb
 rw [e0]
 refine qh.sub ((qoy (cpu:=cpu) hT hO hTb ha (H:=(lb,.cells 134 15 (qu F.n M tb wb g1 g2 rb db))::(HW++(H1++(H2++(HR++(HD++(HM.flatten++H)))))))).hsub zH) ?_
 rintro v H' ⟨Ws',O,XO,HT2,hC,hT2,hO2,_,_,rfl⟩
 refine ⟨_,?_,Ws',O,(lb,.cells 134 15 (qu F.n M tb wb g1 g2 rb db))::(HT2++(HW++(H1++(H2++(HR++(HD++HM.flatten)))))),hC,.mk (F:={ F with Ws:=Ws',Qt:=(Za F.n F.Qt cpu (O.map (·.id))).1 }) hT2 hO2 hW h1 o1 h2 o2 hR hU hD hM,rfl⟩
 simp only [List.cons_append,List.append_assoc]
 exact zH
theorem qV.tState (hF:qV lb T F HF):∃ tb:Nat,(∀ (w0:World) (H:qg),(∀ p∈HF,p∈H)→qB Tryz.prog w0 H 21 [zp lb] (zp tb))∧∀ (w0:World) (H:qg) (id:Int),qh Tryz.prog w0 34 #[zp tb,zi id] (HF++H) (fun v H'=>∃ HF',qV lb T F HF'∧v=zi (stateA F.Ws F.Qt F.At id)∧H'=HF'++H):=by
 cases hF with
 | @mk tb wb g1 g2 rb db M HT HW H1 H2 HR HD HM hT hO hW h1 o1 h2 o2 hR hU hD hM =>
 refine ⟨tb,fun w0 H hs=>Xi (hs _ List.mem_cons_self) hM.m4,?_⟩
 have e0:∀ H:qg,((lb,.cells 134 15 (qu F.n M tb wb g1 g2 rb db))::(HT++(HW++(H1++(H2++(HR++(HD++HM.flatten)))))))++H=(lb,.cells 134 15 (qu F.n M tb wb g1 g2 rb db))::(HT++(HW++(H1++(H2++(HR++(HD++(HM.flatten++H))))))):=fun H=>by simp only [List.cons_append,List.append_assoc]
 intro w0 H id
 rw [e0]
 refine qh.sub ((qhg (id:=id) hT (H:=(lb,.cells 134 15 (qu F.n M tb wb g1 g2 rb db))::(HW++(H1++(H2++(HR++(HD++(HM.flatten++H)))))))).hsub zH) ?_
 rintro v H' ⟨HT2,hT2,rfl,rfl⟩
 refine ⟨_,?_,(lb,.cells 134 15 (qu F.n M tb wb g1 g2 rb db))::(HT2++(HW++(H1++(H2++(HR++(HD++HM.flatten)))))),.mk hT2 hO hW h1 o1 h2 o2 hR hU hD hM,rfl,rfl⟩
 simp only [List.cons_append,List.append_assoc]
 exact zH
theorem qV.tBegin (hF:qV lb T F HF) (hk:k<F.n) (hRt:F.Rt=[]) (hq:QQ F.Qt (k:Int)=[]):∃ tb:Nat,(∀ (w0:World) (H:qg),(∀ p∈HF,p∈H)→qB Tryz.prog w0 H 21 [zp lb] (zp tb))∧∀ (w0:World) (H:qg),qh Tryz.prog w0 36 #[zp tb,zi (k:Int),zi 1] (HF++H) (fun v H'=>∃ HF',qV lb T F HF'∧v=.tuple #[zi 0,zi 0,zi 4]∧H'=HF'++H):=by
 cases hF with
 | @mk tb wb g1 g2 rb db M HT HW H1 H2 HR HD HM hT hO hW h1 o1 h2 o2 hR hU hD hM =>
 refine ⟨tb,fun w0 H hs=>Xi (hs _ List.mem_cons_self) hM.m4,?_⟩
 have e0:∀ H:qg,((lb,.cells 134 15 (qu F.n M tb wb g1 g2 rb db))::(HT++(HW++(H1++(H2++(HR++(HD++HM.flatten)))))))++H=(lb,.cells 134 15 (qu F.n M tb wb g1 g2 rb db))::(HT++(HW++(H1++(H2++(HR++(HD++(HM.flatten++H))))))):=fun H=>by simp only [List.cons_append,List.append_assoc]
 intro w0 H
 rw [e0]
 cases hT with
 | @mk pb bb HP HBk hP hB hA hn =>
 obtain ⟨n_,ms_,Ws_,Qt_,Rt_,At_,Qw_,Rw_,Aw_,on_,tr_,cl_,us_,dy_⟩:=F
 dsimp only at hRt hq hk hP hB hA hn hO hW h1 o1 h2 o2 hR hU hD hM ⊢
 subst hRt
 simp only [List.cons_append,List.append_assoc]
 refine qh.sub ((qfz (H:=HBk++(lb,.cells 134 15 (qu n_ M tb wb g1 g2 rb db))::(HW++(H1++(H2++(HR++(HD++(HM.flatten++H))))))) hP hn.2 hk hq).hsub zH) ?_
 rintro v H' ⟨HP2,hP2,rfl,rfl⟩
 refine ⟨_,?_,(lb,.cells 134 15 (qu n_ M tb wb g1 g2 rb db))::(((tb,.cells 170 1026 (qH pb bb At_))::(HP2++HBk))++(HW++(H1++(H2++(HR++(HD++HM.flatten)))))),.mk (F:=⟨n_,ms_,Ws_,Qt_,[],At_,Qw_,Rw_,Aw_,on_,tr_,cl_,us_,dy_⟩) (.mk hP2 hB hA hn) hO hW h1 o1 h2 o2 hR hU hD hM,rfl,rfl⟩
 simp only [List.cons_append,List.append_assoc]
 exact zH
theorem qV.wState (hF:qV lb T F HF):∃ wb:Nat,(∀ (w0:World) (H:qg),(∀ p∈HF,p∈H)→qB Tryz.prog w0 H 30 [zp lb] (zp wb))∧∀ (w0:World) (H:qg) (id:Int),qh Tryz.prog w0 35 #[zp wb,zi id] (HF++H) (fun v H'=>∃ HF',qV lb T F HF'∧v=zi (stateW F.Qw F.Aw id)∧H'=HF'++H):=by
 cases hF with
 | @mk tb wb g1 g2 rb db M HT HW H1 H2 HR HD HM hT hO hW h1 o1 h2 o2 hR hU hD hM =>
 refine ⟨wb,fun w0 H hs=>qcq (hs _ List.mem_cons_self) hM.m4,?_⟩
 have e0:∀ H:qg,((lb,.cells 134 15 (qu F.n M tb wb g1 g2 rb db))::(HT++(HW++(H1++(H2++(HR++(HD++HM.flatten)))))))++H=(lb,.cells 134 15 (qu F.n M tb wb g1 g2 rb db))::(HT++(HW++(H1++(H2++(HR++(HD++(HM.flatten++H))))))):=fun H=>by simp only [List.cons_append,List.append_assoc]
 intro w0 H id
 rw [e0]
 refine qh.sub ((hW.state (id:=id) (H:=(lb,.cells 134 15 (qu F.n M tb wb g1 g2 rb db))::(HT++(H1++(H2++(HR++(HD++(HM.flatten++H)))))))).hsub zH) ?_
 rintro v H' ⟨rfl,rfl⟩
 refine ⟨_,?_,(lb,.cells 134 15 (qu F.n M tb wb g1 g2 rb db))::(HT++(HW++(H1++(H2++(HR++(HD++HM.flatten)))))),.mk hT hO hW h1 o1 h2 o2 hR hU hD hM,rfl,rfl⟩
 simp only [List.cons_append,List.append_assoc]
 exact zH
theorem qV.wPost (hF:qV lb T F HF) {o:ZL} (ho:F.Aw[i]?=some o) (hi:i<256) (hk:k<F.n):∃ wb:Nat,(∀ (w0:World) (H:qg),(∀ p∈HF,p∈H)→qB Tryz.prog w0 H 30 [zp lb] (zp wb))∧∀ (w0:World) (H:qg),qh Tryz.prog w0 33 #[zp wb,zi (i:Int),zi (k:Int)] (HF++H) (fun v H'=>∃ HF',qV lb T { F with Qw:=(Z1 F.n F.Qw o i k).1 } HF'∧v=zi (Z1 F.n F.Qw o i k).2∧H'=HF'++H):=by
 cases hF with
 | @mk tb wb g1 g2 rb db M HT HW H1 H2 HR HD HM hT hO hW h1 o1 h2 o2 hR hU hD hM =>
 refine ⟨wb,fun w0 H hs=>qcq (hs _ List.mem_cons_self) hM.m4,?_⟩
 have e0:∀ H:qg,((lb,.cells 134 15 (qu F.n M tb wb g1 g2 rb db))::(HT++(HW++(H1++(H2++(HR++(HD++HM.flatten)))))))++H=(lb,.cells 134 15 (qu F.n M tb wb g1 g2 rb db))::(HT++(HW++(H1++(H2++(HR++(HD++(HM.flatten++H))))))):=fun H=>by simp only [List.cons_append,List.append_assoc]
 intro w0 H
 rw [e0]
 have hW0:=hW
 cases hW with
 | @mk pb HP hP hA hn =>
 simp only [List.cons_append,List.append_assoc]
 refine qh.sub ((qiN (H:=(lb,.cells 134 15 (qu F.n M tb wb g1 g2 rb db))::(HT++(H1++(H2++(HR++(HD++(HM.flatten++H))))))) hP hn ho hi hk).hsub zH) ?_
 rintro v H' ⟨HP2,hP2,rfl,rfl⟩
 refine ⟨_,?_,(lb,.cells 134 15 (qu F.n M tb wb g1 g2 rb db))::(HT++(((wb,.cells 179 546 (q8 pb F.n F.Aw F.on))::HP2)++(H1++(H2++(HR++(HD++HM.flatten)))))),.mk (F:={ F with Qw:=(Z1 F.n F.Qw o i k).1 }) hT hO (.mk hP2 hA hn) h1 o1 h2 o2 hR hU hD hM,rfl,rfl⟩
 simp only [List.cons_append,List.append_assoc]
 exact zH
theorem qV.wBegin (hF:qV lb T F HF) (hk:k<F.n) (hRw:F.Rw=[]) (hq:QQ F.Qw (k:Int)=[]) (hon:F.on=List.replicate 32 0):∃ wb:Nat,(∀ (w0:World) (H:qg),(∀ p∈HF,p∈H)→qB Tryz.prog w0 H 30 [zp lb] (zp wb))∧∀ (w0:World) (H:qg),qh Tryz.prog w0 37 #[zp wb,zi (k:Int),zi 1] (HF++H) (fun v H'=>∃ HF',qV lb T F HF'∧v=.tuple #[zi 0,zi 0,zi 4]∧H'=HF'++H):=by
 cases hF with
 | @mk tb wb g1 g2 rb db M HT HW H1 H2 HR HD HM hT hO hW h1 o1 h2 o2 hR hU hD hM =>
 refine ⟨wb,fun w0 H hs=>qcq (hs _ List.mem_cons_self) hM.m4,?_⟩
 have e0:∀ H:qg,((lb,.cells 134 15 (qu F.n M tb wb g1 g2 rb db))::(HT++(HW++(H1++(H2++(HR++(HD++HM.flatten)))))))++H=(lb,.cells 134 15 (qu F.n M tb wb g1 g2 rb db))::(HT++(HW++(H1++(H2++(HR++(HD++(HM.flatten++H))))))):=fun H=>by simp only [List.cons_append,List.append_assoc]
 intro w0 H
 rw [e0]
 cases hW with
 | @mk pb HP hP hA hn =>
 obtain ⟨n_,ms_,Ws_,Qt_,Rt_,At_,Qw_,Rw_,Aw_,on_,tr_,cl_,us_,dy_⟩:=F
 dsimp only at hRw hon hq hk hP hA hn hT hO h1 o1 h2 o2 hR hU hD hM ⊢
 subst hRw hon
 simp only [List.cons_append,List.append_assoc]
 refine qh.sub ((qft (H:=(lb,.cells 134 15 (qu n_ M tb wb g1 g2 rb db))::(HT++(H1++(H2++(HR++(HD++(HM.flatten++H))))))) hP hn hA.len hk hq).hsub zH) ?_
 rintro v H' ⟨HP2,hP2,rfl,rfl⟩
 refine ⟨_,?_,(lb,.cells 134 15 (qu n_ M tb wb g1 g2 rb db))::(HT++(((wb,.cells 179 546 (q8 pb n_ Aw_ (List.replicate 32 0)))::HP2)++(H1++(H2++(HR++(HD++HM.flatten)))))),.mk (F:=⟨n_,ms_,Ws_,Qt_,Rt_,At_,Qw_,[],Aw_,List.replicate 32 0,tr_,cl_,us_,dy_⟩) hT hO (.mk hP2 hA hn) h1 o1 h2 o2 hR hU hD hM,rfl,rfl⟩
 simp only [List.cons_append,List.append_assoc]
 exact zH
set_option maxRecDepth 100000
theorem qfP {x:Nat}:(Qq x a).1.due≤18446744073709551615:=by
 unfold Qq; split
 ·exact Nat.zero_le _
 ·exact qb3 _ _
structure Qd where
 x:Xm
 Ws:List Wl
 Qt:List (Int × Int)
 At:List Qn
 Qw:List (Int × Int)
 Aw:List ZL
 on:List Int
 us:List (Int × Cnt)
def kQ (n:Nat) (D:Qd):Nat→Lf
 | 0=>⟨n,[some (D.x,false),none,none,none],D.Ws,D.Qt,[],D.At,D.Qw,[],D.Aw,D.on,Zj (gr0 n) n 0,gr0 n,D.us,[(0,⟨0,1⟩)]⟩
 | i+1=>(Jv (kQ n D i)).1
theorem q_t0 (h:n<4) (D:Qd):(zY (kQ (n+1) D 0).tr).2=[]:=by
 obtain rfl | rfl | rfl | rfl:n=0∨n=1∨n=2∨n=3:=by omega
 all_goals kernel_rfl
theorem q_c0 (h:n<4) (D:Qd):(zY (QY { (kQ (n+1) D 0) with tr:=(zY (kQ (n+1) D 0).tr).1 } (zY (kQ (n+1) D 0).tr).2).cl).2=[]:=by
 obtain rfl | rfl | rfl | rfl:n=0∨n=1∨n=2∨n=3:=by omega
 all_goals kernel_rfl
theorem q_p0 (h:n<4) (D:Qd):(Jv (kQ (n+1) D 0)).2=[]:=by
 obtain rfl | rfl | rfl | rfl:n=0∨n=1∨n=2∨n=3:=by omega
 all_goals kernel_rfl
theorem q_b0 (h:n<4) (D:Qd):(kQ (n+1) D 0).tr.began=0∧(kQ (n+1) D 0).cl.began=0:=by
 obtain rfl | rfl | rfl | rfl:n=0∨n=1∨n=2∨n=3:=by omega
 all_goals exact ⟨by kernel_rfl,by kernel_rfl⟩
theorem q_t1 (h:n<4) (D:Qd):(zY (kQ (n+1) D 1).tr).2=[0]:=by
 obtain rfl | rfl | rfl | rfl:n=0∨n=1∨n=2∨n=3:=by omega
 all_goals kernel_rfl
theorem q_c1 (h:n<4) (D:Qd):(zY (QY { (kQ (n+1) D 1) with tr:=(zY (kQ (n+1) D 1).tr).1 } (zY (kQ (n+1) D 1).tr).2).cl).2=[]:=by
 obtain rfl | rfl | rfl | rfl:n=0∨n=1∨n=2∨n=3:=by omega
 all_goals kernel_rfl
theorem q_p1 (h:n<4) (D:Qd):(Jv (kQ (n+1) D 1)).2=[]:=by
 obtain rfl | rfl | rfl | rfl:n=0∨n=1∨n=2∨n=3:=by omega
 all_goals kernel_rfl
theorem q_b1 (h:n<4) (D:Qd):(kQ (n+1) D 1).tr.began=1∧(kQ (n+1) D 1).cl.began=0:=by
 obtain rfl | rfl | rfl | rfl:n=0∨n=1∨n=2∨n=3:=by omega
 all_goals exact ⟨by kernel_rfl,by kernel_rfl⟩
theorem q_t2 (h:n<4) (D:Qd):(zY (kQ (n+1) D 2).tr).2=[]:=by
 obtain rfl | rfl | rfl | rfl:n=0∨n=1∨n=2∨n=3:=by omega
 all_goals kernel_rfl
theorem q_c2 (h:n<4) (D:Qd):(zY (QY { (kQ (n+1) D 2) with tr:=(zY (kQ (n+1) D 2).tr).1 } (zY (kQ (n+1) D 2).tr).2).cl).2=[0]:=by
 obtain rfl | rfl | rfl | rfl:n=0∨n=1∨n=2∨n=3:=by omega
 all_goals kernel_rfl
theorem q_p2 (h:n<4) (D:Qd):(Jv (kQ (n+1) D 2)).2=[⟨0,0,1,false⟩]:=by
 obtain rfl | rfl | rfl | rfl:n=0∨n=1∨n=2∨n=3:=by omega
 all_goals kernel_rfl
theorem q_b2 (h:n<4) (D:Qd):(kQ (n+1) D 2).tr.began=1∧(kQ (n+1) D 2).cl.began=1:=by
 obtain rfl | rfl | rfl | rfl:n=0∨n=1∨n=2∨n=3:=by omega
 all_goals exact ⟨by kernel_rfl,by kernel_rfl⟩
theorem q_t3 (h:n<4) (D:Qd):(zY (kQ (n+1) D 3).tr).2=[]:=by
 obtain rfl | rfl | rfl | rfl:n=0∨n=1∨n=2∨n=3:=by omega
 all_goals kernel_rfl
theorem q_c3 (h:n<4) (D:Qd):(zY (QY { (kQ (n+1) D 3) with tr:=(zY (kQ (n+1) D 3).tr).1 } (zY (kQ (n+1) D 3).tr).2).cl).2=[]:=by
 obtain rfl | rfl | rfl | rfl:n=0∨n=1∨n=2∨n=3:=by omega
 all_goals kernel_rfl
theorem q_p3 (h:n<4) (D:Qd):(Jv (kQ (n+1) D 3)).2=[]:=by
 obtain rfl | rfl | rfl | rfl:n=0∨n=1∨n=2∨n=3:=by omega
 all_goals kernel_rfl
theorem q_b3 (h:n<4) (D:Qd):(kQ (n+1) D 3).tr.began=1∧(kQ (n+1) D 3).cl.began=1:=by
 obtain rfl | rfl | rfl | rfl:n=0∨n=1∨n=2∨n=3:=by omega
 all_goals exact ⟨by kernel_rfl,by kernel_rfl⟩
theorem q_m2 (h:n<4) (D:Qd):(JC (kQ (n+1) D 2) 0).isSome=true:=by
 obtain rfl | rfl | rfl | rfl:n=0∨n=1∨n=2∨n=3:=by omega
 all_goals kernel_rfl
theorem q_at (h:n<4) (D:Qd):(kQ (n+1) D 3).At=(zV D.Ws D.Qt [] D.At ((0:Nat):Int)).2.2.1:=by
 obtain rfl | rfl | rfl | rfl:n=0∨n=1∨n=2∨n=3:=by omega
 all_goals kernel_rfl
theorem q_aw (h:n<4) (D:Qd):(kQ (n+1) D 3).Aw=(z9 D.Qw [] D.Aw 0).2.1:=by
 obtain rfl | rfl | rfl | rfl:n=0∨n=1∨n=2∨n=3:=by omega
 all_goals kernel_rfl
theorem q_us (h:n<4) (D:Qd):(kQ (n+1) D 3).us=us2 (kQ (n+1) D 2) 0:=by
 obtain rfl | rfl | rfl | rfl:n=0∨n=1∨n=2∨n=3:=by omega
 all_goals kernel_rfl
theorem q_u2 (h:n<4) (D:Qd):(kQ (n+1) D 2).us=D.us∧(kQ (n+1) D 2).At=D.At∧(kQ (n+1) D 2).Aw=D.Aw:=by
 obtain rfl | rfl | rfl | rfl:n=0∨n=1∨n=2∨n=3:=by omega
 all_goals exact ⟨by kernel_rfl,by kernel_rfl,by kernel_rfl⟩
theorem q_ms (h:n<4) (D:Qd):(kQ (n+1) D 3).ms=[some ((D.x.free ⟨0,1⟩).1,false),none,none,none]:=by
 obtain rfl | rfl | rfl | rfl:n=0∨n=1∨n=2∨n=3:=by omega
 all_goals kernel_rfl
theorem q_dy (h:n<4) (D:Qd):(kQ (n+1) D 3).dy=[]:=by
 obtain rfl | rfl | rfl | rfl:n=0∨n=1∨n=2∨n=3:=by omega
 all_goals kernel_rfl
theorem q_fix (h:n<4) (D:Qd):Jv (kQ (n+1) D 3)=((kQ (n+1) D 3),[]):=by
 obtain rfl | rfl | rfl | rfl:n=0∨n=1∨n=2∨n=3:=by omega
 all_goals kernel_rfl
theorem qfN {n:Nat} (h:n<4) (D:Qd):∀ i,kQ (n+1) D (3+i)=kQ (n+1) D 3
 | 0=>rfl
 | i+1=>by
  show (Jv (kQ (n+1) D (3+i))).1=_
  rw [qfN h D i,q_fix h D]
theorem qny (n:Nat) (D:Qd) (i:Nat):(Jv (kQ n D i)).1=kQ n D (i+1):=rfl
theorem q_20 (h:n<4) (D:Qd):kQ (n+1) D 20=kQ (n+1) D 3:=by
 have e:=qfN h D 17
 rw [show 3+17=20 from rfl] at e
 exact e
theorem qpl (h:n<4) (D:Qd) (i:Nat):((kQ (n+1) D i).tr.began<1000000000∧(kQ (n+1) D i).cl.began<1000000000)∧(∀ z∈(zY (kQ (n+1) D i).tr).2,0≤z∧z<64)∧(∀ z∈(zY (QY { kQ (n+1) D i with tr:=(zY (kQ (n+1) D i).tr).1 } (zY (kQ (n+1) D i).tr).2).cl).2,(0≤z∧z<64)∧(JC (kQ (n+1) D i) (z/16)).isSome=true)∧(Jv (kQ (n+1) D i)).2.length=if i=2 then 1 else 0:=by
 obtain rfl | rfl | rfl | ⟨j,rfl⟩:i=0∨i=1∨i=2∨∃ j,i=3+j:=by
  rcases (show i=0∨i=1∨i=2∨3≤i by omega) with h | h | h | h
  ·exact .inl h
  ·exact .inr (.inl h)
  ·exact .inr (.inr (.inl h))
  ·exact .inr (.inr (.inr ⟨i-3,by omega⟩))
 ·rw [q_t0 h,q_p0 h,(q_b0 h D).1,(q_b0 h D).2]
  refine ⟨by decide,by decide,?_,rfl⟩
  have e:=q_c0 h D
  rw [q_t0 h] at e; rw [e]; intro z hz; cases hz
 ·rw [q_t1 h,q_p1 h,(q_b1 h D).1,(q_b1 h D).2]
  refine ⟨by decide,by decide,?_,rfl⟩
  have e:=q_c1 h D
  rw [q_t1 h] at e; rw [e]; intro z hz; cases hz
 ·rw [q_t2 h,q_p2 h,(q_b2 h D).1,(q_b2 h D).2]
  refine ⟨by decide,by decide,?_,rfl⟩
  have e:=q_c2 h D
  rw [q_t2 h] at e; rw [e]; intro z hz; obtain rfl:=List.mem_singleton.1 hz; exact ⟨by decide,q_m2 h D⟩
 ·rw [qfN h D j,q_t3 h,q_p3 h,(q_b3 h D).1,(q_b3 h D).2,if_neg (by omega)]
  refine ⟨by decide,by decide,?_,rfl⟩
  have e:=q_c3 h D
  rw [q_t3 h] at e; rw [e]; intro z hz; cases hz
def qx1 (k:Int):Xm:=((Xm.new 1 8 1).put 0 k [1]).1
def qx2 (k:Int):Xm:=((qx1 k).del k).1
theorem q_put (n:Nat) (Ws:List Wl) (k:Int):K1 (sF n Ws) 0 0 k [1]=({ lf0 n Ws with ms:=[some (qx1 k,false),none,none,none] },⟨0,1⟩,0):=by kernel_rfl
theorem q_C (k:Int):(qx1 k).C=[(k,⟨0,1⟩)]:=by kernel_rfl
theorem qpm (k:Int):(qx1 k).kind=1:=by kernel_rfl
theorem qgS (k:Int) (h:Hd):Q6 [(k,h)] k=some h:=by unfold Q6; simp
theorem qjp (k:Int):(qx1 k).del k=({ qx1 k with C:=[],used:=zQ (qx1 k).used k },⟨0,1⟩,0):=by
 unfold Xm.del
 rw [qpm,if_neg (by decide),q_C,qgS]
 dsimp only
 unfold Xm.unlink
 rw [q_C,qgS]
 rw [show Zu [(k,(⟨0,1⟩:Hd))] k=[] by unfold Zu; simp]; rfl
theorem q_x2 (k:Int):qx2 k={ qx1 k with C:=[],used:=zQ (qx1 k).used k }:=by unfold qx2; rw [qjp]
theorem qpo (k:Int):(qx2 k).find k=(qx2 k,zHd,4):=by rw [q_x2]; rfl
theorem qpn (k:Int):(((qx2 k).free ⟨0,1⟩).1.key ⟨0,1⟩).2=7:=by rw [q_x2]; kernel_rfl
theorem q_num (n:Nat) (Ws:List Wl) (k:Int):qbD { lf0 n Ws with ms:=[some (qx1 k,false),none,none,none] } 0 ⟨0,1⟩=(0,0):=by kernel_rfl
theorem qh8 (L:List Tm) (z:Int):(QO L [z]).1=Ys L z:=by
 first | rfl | (unfold QO; simp [Ys]) | (simp [QO,Ys])
structure QsB (n:Nat) (p:Int) (x:Xm) (F:Lf):Prop where
 pr:0≤p∧p<16
 nn:F.n=n+1
 ms:F.ms=[some (x,false),none,none,none]
 ws:∀ w∈F.Ws,∀ t∈w.L,t.id=0
 qt:∀ q∈F.Qt,q.1=0
 rt:F.Rt=[]
 at0:∃ st,F.At[0]?=some ⟨true,false,p+1,st⟩
 qw:∀ q∈F.Qw,q.1=0
 rw_:F.Rw=[]
 aw0:F.Aw[0]?=some ⟨false,p+1⟩
 on:F.on=List.replicate 32 0
 tr:F.tr=gr0 (n+1)
 cl:F.cl=gr0 (n+1)
 us:F.us=usR p 2
 dy:F.dy=[]
structure QsC (n:Nat) (p:Int) (x:Xm) (F:Lf):Prop where
 pr:0≤p∧p<16
 nn:F.n=n+1
 ms:F.ms=[some (x,false),none,none,none]
 ws:∀ w∈F.Ws,w.L=[]
 qt:F.Qt=[]
 rt:F.Rt=[]
 at0:∃ st,F.At[0]?=some ⟨true,true,p+1,st⟩
 qw:F.Qw=[]
 rw_:F.Rw=[]
 aw0:F.Aw[0]?=some ⟨true,p+1⟩
 on:F.on=List.replicate 32 0
 tr:F.tr=Zj (gr0 (n+1)) (n+1) 0
 cl:F.cl=gr0 (n+1)
 us:F.us=usR p 2
 dy:F.dy=[(0,⟨0,1⟩)]
theorem qA {k:Int} (hp:0≤p∧p<16) (hf:∀ w∈Ws,XW 0 w):∀ F1,F1={ lf0 (n+1) Ws with ms:=[some (qx1 k,false),none,none,none] }→(inF F1 0).2=0∧(cbF (inF F1 0).1 0 p).2=0∧(wkF (cbF (inF F1 0).1 0 p).1 0 p).2=0∧QsB n p (qx1 k) (wkF (cbF (inF F1 0).1 0 p).1 0 p).1∧(wkF (cbF (inF F1 0).1 0 p).1 0 p).1.Ws=Ws∧(wkF (cbF (inF F1 0).1 0 p).1 0 p).1.Qw=[]:=by
 intro F1 e1
 have hA:F1.At[0]?=some Qy:=by rw [e1]; show (List.replicate 256 Qy)[0]?=_; rw [List.getElem?_replicate,if_pos (by omega)]
 have hB:F1.Aw[0]?=some QE:=by rw [e1]; show (List.replicate 256 QE)[0]?=_; rw [List.getElem?_replicate,if_pos (by omega)]
 have hlt:=(List.getElem?_eq_some_iff.1 hA).1
 have hlw:=(List.getElem?_eq_some_iff.1 hB).1
 have hus:F1.us=usR p 0:=by rw [e1]; rfl
 have ei:inF F1 0=({ F1 with At:=F1.At.set 0 ⟨true,false,0,0⟩ },0):=by
  unfold inF; rw [show (0:Int)=((0:Nat):Int) from rfl,qdO (by omega) hA]; rfl
 rw [ei]
 have ec:=cb_is (F:={ F1 with At:=F1.At.set 0 ⟨true,false,0,0⟩ }) (p:=p) (i:=0) (o:=⟨true,false,0,0⟩) zO hp (List.getElem?_set_self hlt) rfl rfl (by rintro ⟨h,_⟩; exact absurd h zd)
 dsimp only at ec
 rw [show (decide ((0:Int)<0))=false from rfl,show max ((0:Int)-1) 0=0 from rfl,hus,qgw,List.set_set] at ec
 dsimp only at ec
 rw [if_pos (show 0<8 by decide),if_neg (by decide)] at ec
 obtain ⟨F2,e2⟩:∃ F2:Lf,F2={ F1 with us:=usR p (0+1),At:=F1.At.set 0 ⟨true,false,p+1,0⟩ }:=⟨_,rfl⟩
 have ec2:cbF { F1 with At:=F1.At.set 0 ⟨true,false,0,0⟩ } 0 p=(F2,0):=by
  rw [e2,← ec]
  show cbF _ ((0:Nat):Int) p=_
  rw [show ({ F1 with At:=F1.At.set 0 ⟨true,false,0,0⟩ }:Lf)=⟨F1.n,F1.ms,F1.Ws,F1.Qt,F1.Rt,F1.At.set 0 ⟨true,false,0,0⟩,F1.Qw,F1.Rw,F1.Aw,F1.on,F1.tr,F1.cl,usR p 0,F1.dy⟩ by rw [hus]]
 dsimp only
 rw [ec2]
 have ew:=wk_is (F:=F2) (p:=p) (i:=0) (o:=QE) (by omega) hp (by rw [e2]; exact hB) rfl (by rintro ⟨h,_⟩; exact absurd h (by decide))
 rw [show (decide (0<QE.prog))=false from rfl,show max (QE.prog-1) 0=0 from rfl,show F2.us=usR p (0+1) by rw [e2],qgw] at ew
 dsimp only at ew
 rw [if_pos (show 0+1<8 by decide),if_neg (by decide)] at ew
 dsimp only
 rw [show (0:Int)=((0:Nat):Int) from rfl,ew]
 refine ⟨rfl,rfl,rfl,?_,by rw [e2,e1]; rfl,by rw [e2,e1]; rfl⟩
 rw [e2,e1]
 exact ⟨hp,rfl,rfl,fun w hw t ht=>(by rw [(hf w hw).2.1] at ht; cases ht),fun q hq=>(by cases hq),rfl,⟨0,by rw [e1] at hlt; exact List.getElem?_set_self hlt⟩,fun q hq=>(by cases hq),rfl,by rw [e1] at hlw; exact List.getElem?_set_self hlw,rfl,rfl,rfl,rfl,rfl⟩
theorem qe9 {z:Int}:∀ w∈Ws.map (Yr [z]),∃ w'∈Ws,w.L=Ys w'.L z:=fun w hw=>by
 obtain ⟨w',hw',rfl⟩:=List.mem_map.1 hw
 exact ⟨w',hw',qh8 _ _⟩
theorem QsB.start (h:QsB n p x F) {Q':List (Int × Int)} {At':List Qn} {s:Qu} {e:Int} (hl:F.Ws.length=n+1) (hf:∀ w∈F.Ws,XW 0 w) (hS:XU F.n F.Ws F.Qt F.At 0 0 a Ws' Q' At' s e):e=0∧s.due≤18446744073709551615∧QsB n p x { F with Ws:=Ws',Qt:=Q',At:=At' }:=by
 obtain ⟨st,hat⟩:=h.at0
 obtain ⟨w,hw⟩:∃ w,F.Ws[0]?=some w:=⟨_,List.getElem?_eq_getElem zO⟩
 have hwf:=hf w (List.mem_of_getElem? hw)
 have hlt:=(List.getElem?_eq_some_iff.1 hat).1
 obtain ⟨he,hs,hW,hQ,hA⟩:=qi1 (i:=0) (k:=0) hS (by rw [h.nn]; exact hl) (by decide) hat hw rfl rfl (by show ¬ p+1=0; have:=h.pr; omega) (by rw [hwf.1]; decide)
 refine ⟨he,by rw [hs]; exact qfP,?_⟩
 rw [hW,hQ,hA]
 refine ⟨h.pr,h.nn,h.ms,fun v hv t ht=>?_,fun q hq=>h.qt q (List.mem_filter.1 hq).1,h.rt,⟨_,List.getElem?_set_self hlt⟩,h.qw,h.rw_,h.aw0,h.on,h.tr,h.cl,h.us,h.dy⟩
 rcases List.mem_or_eq_of_mem_set hv with hv | rfl
 ·obtain ⟨w',hw',e1⟩:=qe9 v hv
  rw [e1,(hf w' hw').2.1] at ht; cases ht
 ·dsimp only at ht
  rw [hwf.2.1] at ht
  obtain rfl:=List.mem_singleton.1 (show t∈[qfx w.now a w.turn ((0:Nat):Int)] from ht)
  rfl
theorem qfg {cpu:Int}:∀ {l:List Int} {Q:List (Int × Int)},∀ q∈(qbG cpu l Q).1,q∈Q∨q.1∈l
 | [],Q,q,hq=>.inl hq
 | id::l,Q,q,hq=>by
  unfold qbG at hq
  split at hq
  ·exact .inl hq
  ·split at hq
   ·exact .inl hq
   ·rcases qfg q hq with h | h
    ·rcases List.mem_append.1 h with h | h
     ·exact .inl h
     ·obtain rfl:=List.mem_singleton.1 h; exact .inr List.mem_cons_self
    ·exact .inr (List.mem_cons_of_mem _ h)
theorem qio {l:List Int} :∀ q∈(Za n Q cpu l).1,q∈Q∨q.1∈l:=fun q hq=>by
 unfold Za at hq
 split at hq
 ·exact .inl hq
 ·exact qfg q hq
theorem QsB.catch (h:QsB n p x F) {O:List Tm} (hC:ZR F.Ws cpu a Ws' O):QsB n p x { F with Ws:=Ws',Qt:=(Za F.n F.Qt cpu (O.map (·.id))).1 }:=by
 have key:(∀ w∈Ws',∀ t∈w.L,t.id=0)∧∀ t∈O,t.id=0:=by
  rcases hC with ⟨_,rfl,rfl⟩ | ⟨k,w,Li,rfl,hk,hG,rfl⟩
  ·exact ⟨h.ws,fun t ht=>by cases ht⟩
  ·have hw:=h.ws w (List.mem_of_getElem? hk)
   refine ⟨fun v hv t ht=>?_,fun t ht=>?_⟩
   ·rcases List.mem_or_eq_of_mem_set hv with hv | rfl
    ·exact h.ws v hv t ht
    ·dsimp only at ht
     rw [hG.left] at ht
     exact hw t (List.mem_filter.1 ht).1
   ·exact hw t (List.mem_filter.1 (hG.perm.mem_iff.1 ht)).1
 refine ⟨h.pr,h.nn,h.ms,key.1,fun q hq=>?_,h.rt,h.at0,h.qw,h.rw_,h.aw0,h.on,h.tr,h.cl,h.us,h.dy⟩
 rcases qio q hq with e | e
 ·exact h.qt q e
 ·obtain ⟨t,ht,e2⟩:=List.mem_map.1 e
  rw [← e2]; exact key.2 t ht
theorem QsC.catch (h:QsC n p x F) {O:List Tm} (hC:ZR F.Ws cpu a Ws' O):QsC n p x { F with Ws:=Ws',Qt:=(Za F.n F.Qt cpu (O.map (·.id))).1 }:=by
 have key:(∀ w∈Ws',w.L=[])∧O=[]:=by
  rcases hC with ⟨_,rfl,rfl⟩ | ⟨k,w,Li,rfl,hk,hG,rfl⟩
  ·exact ⟨h.ws,rfl⟩
  ·have hw:=h.ws w (List.mem_of_getElem? hk)
   refine ⟨fun v hv=>?_,?_⟩
   ·rcases List.mem_or_eq_of_mem_set hv with hv | rfl
    ·exact h.ws v hv
    ·show Li=[]
     rw [hG.left,hw]; rfl
   ·have:=hG.perm
    rw [hw] at this
    exact List.Perm.eq_nil this
 refine ⟨h.pr,h.nn,h.ms,key.1,?_,h.rt,h.at0,h.qw,h.rw_,h.aw0,h.on,h.tr,h.cl,h.us,h.dy⟩
 rw [key.2,h.qt]
 show (Za F.n [] cpu []).1=[]
 unfold Za; split <;> rfl
theorem QsB.post (h:QsB n p x F) (hq:F.Qw=[]):(Z1 F.n F.Qw ⟨false,p+1⟩ 0 0).2=0∧QsB n p x { F with Qw:=(Z1 F.n F.Qw ⟨false,p+1⟩ 0 0).1 }:=by
 have hp:=h.pr
 have e:Z1 F.n F.Qw ⟨false,p+1⟩ 0 0=([(0,0)],0):=by
  unfold Z1
  rw [if_neg (show ¬ (false=true) by decide),if_neg (show ¬ p+1=0 by omega),hq]
  unfold Za
  rw [if_neg (by rw [h.nn]; rintro (h | h) <;> omega)]
  rfl
 rw [e]
 exact ⟨rfl,h.pr,h.nn,h.ms,h.ws,h.qt,h.rt,h.at0,fun q hq=>by obtain rfl:=List.mem_singleton.1 hq; rfl,h.rw_,h.aw0,h.on,h.tr,h.cl,h.us,h.dy⟩
theorem qdq (h:∀ q∈Q,q.1=0):ZC Q ((0:Nat):Int)=[]:=by
 unfold ZC
 rw [List.filter_eq_nil_iff]
 intro q hq
 rw [decide_eq_true_eq]
 exact fun e=>e (h q hq)
theorem qia {L:List Tm} (h:∀ t∈L,t.id=0):Ys L ((0:Nat):Int)=[]:=by
 unfold Ys
 rw [List.filter_eq_nil_iff]
 intro q hq
 rw [decide_eq_true_eq]
 exact fun e=>e (h q hq)
theorem qm9 {As:List Qn} {o:Qn} (h:As[0]?=some o) (hs:o.shut=false):Qb Ws Q As [((0:Nat):Int)]=(Ws.map (Yr [((0:Nat):Int)]),ZC Q ((0:Nat):Int),As.set 0 { o with shut:=true },1):=by
 show qae (Ws,Q,As,0) ((0:Nat):Int)=_
 rw [qb5 (by decide) h,hs,if_neg (by decide)]
attribute [local irreducible] Qb zV z9
theorem QsB.drop {k:Int} (h:QsB n p (qx1 k) F):(Y1 F 0 k).2=0∧QsC n p (qx2 k) (Y1 F 0 k).1:=by
 obtain ⟨st,hat⟩:=h.at0
 have hlt:=(List.getElem?_eq_some_iff.1 hat).1
 have hlw:=(List.getElem?_eq_some_iff.1 h.aw0).1
 have hm:JC F 0=some (qx1 k,false):=by unfold JC; rw [h.ms]; rfl
 have e:Y1 F 0 k=(qe7 { F with ms:=F.ms.set 0 (some (qx2 k,false)) } 0 ⟨0,1⟩,0):=by
  unfold Y1
  rw [hm]
  dsimp only
  unfold qcI
  rw [if_pos (show ((qx1 k).del k).2.2=0 by rw [qjp])]
  rw [show ((qx1 k).del k).2.1=⟨0,1⟩ by rw [qjp]]
  rfl
 rw [e]
 have eS:=qm9 (Ws:=F.Ws) (Q:=F.Qt) hat rfl
 refine ⟨rfl,h.pr,h.nn,?_,?_,?_,h.rt,⟨st,?_⟩,qdq h.qw,h.rw_,?_,h.on,?_,h.cl,h.us,?_⟩
 ·show F.ms.set 0 _=_
  rw [h.ms]; rfl
 ·show ∀ w∈(Qb F.Ws F.Qt F.At [((0:Nat):Int)]).1,w.L=[]
  rw [eS]
  intro w hw
  obtain ⟨w',hw',e1⟩:=qe9 w hw
  rw [e1]; exact qia (h.ws w' hw')
 ·show (Qb F.Ws F.Qt F.At [((0:Nat):Int)]).2.1=[]
  rw [eS]; exact qdq h.qt
 ·show (Qb F.Ws F.Qt F.At [((0:Nat):Int)]).2.2.1[0]?=_
  rw [eS]; exact List.getElem?_set_self hlt
 ·show (F.Aw.set 0 { ofW F.Aw ((0:Nat):Int) with shut:=true })[0]?=_
  rw [Xx (by decide) h.aw0]; exact List.getElem?_set_self hlw
 ·show Zj F.tr F.n 0=_
  rw [h.tr,h.nn]
 ·show qdo F.dy ((0:Nat):Int) ⟨0,1⟩=_
  rw [h.dy]; rfl
theorem QsC.stateA (h:QsC n p x F):stateA F.Ws F.Qt F.At 0=4:=by
 obtain ⟨st,hat⟩:=h.at0
 unfold Go.Proofs.YtincjohoncljoaaGreatDoor.stateA Xv
 rw [show ofA F.At 0=⟨true,true,p+1,st⟩ from qaZ (i:=0) (by decide) hat]
 rfl
theorem QsC.stateW (h:QsC n p x F):stateW F.Qw F.Aw 0=3:=by
 unfold Go.Proofs.YtincjohoncljoaaGreatDoor.stateW
 rw [show ofW F.Aw 0=⟨true,p+1⟩ from Xx (i:=0) (by decide) h.aw0]
 rfl
theorem QsC.find {k:Int} (h:QsC n p (qx2 k) F):Xn F 0 k=(F,zHd,4):=by
 have hm:JC F 0=some (qx2 k,false):=by unfold JC; rw [h.ms]; rfl
 unfold Xn
 rw [hm]
 dsimp only
 rw [qpo]
 have e:qi8 F 0 (some (qx2 k,false))=F:=by
  have hms:=h.ms
  obtain ⟨n_,ms_,Ws_,Qt_,Rt_,At_,Qw_,Rw_,Aw_,on_,tr_,cl_,us_,dy_⟩:=F
  dsimp only at hms
  subst hms
  rfl
 rw [e]
theorem QsC.same {n:Nat} {p:Int} {x:Xm} :({ F with Qt:=F.Qt,Rt:=F.Rt }:Lf)=F:=rfl
theorem QsC.start (h:QsC n p x F) {Q':List (Int × Int)} {At':List Qn} {s:Qu} {e:Int} (hS:XU F.n F.Ws F.Qt F.At 0 0 a Ws' Q' At' s e):e=22∧({ F with Ws:=Ws',Qt:=Q',At:=At' }:Lf)=F:=by
 obtain ⟨st,hat⟩:=h.at0
 have hn:=h.nn
 cases hS with
 | out h0=>rcases h0 with h0 | h0 | h0 <;> (exfalso; omega)
 | @at_ i k o w _ _ _ _ _ hi ei ek hA hw hM =>
  obtain rfl:i=0:=by omega
  rw [hat] at hA
  obtain rfl:=Option.some.inj hA
  cases hM with
  | gone _=>exact ⟨rfl,rfl⟩
  | unset hs _=>cases hs
  | late hs _ _=>cases hs
  | put hs _ _ _=>cases hs
theorem QsC.post (h:QsC n p x F):Z1 F.n F.Qw ⟨true,p+1⟩ 0 0=(F.Qw,22):=by
 unfold Z1; rw [if_pos rfl]
theorem QsC.call (h:QsC n p x F):cbF F 0 p=(F,22):=by
 unfold cbF
 rw [if_neg (fun e=>e ⟨⟨by decide,by decide⟩,h.pr⟩),if_pos h.stateA]
theorem QsC.work (h:QsC n p x F):wkF F 0 p=(F,22):=by
 unfold wkF
 rw [if_neg (fun e=>e ⟨⟨by decide,by decide⟩,h.pr⟩),if_pos h.stateW]
def qaX (x:Xm) (F:Lf):Qd:=⟨x,F.Ws,F.Qt,F.At,F.Qw,F.Aw,F.on,F.us⟩
theorem QsC.is (h:QsC n p x F):F=kQ (n+1) (qaX x F) 0:=by
 obtain ⟨hpr,h1,h2,h3,h4,h5,h6,h7,h8,h9,h10,h11,h12,h13,h14⟩:=h
 obtain ⟨n_,ms_,Ws_,Qt_,Rt_,At_,Qw_,Rw_,Aw_,on_,tr_,cl_,us_,dy_⟩:=F
 dsimp only at h1 h2 h5 h8 h11 h12 h14
 subst h1 h2 h5 h8 h11 h12 h14
 rfl
theorem qna (p:Int):(ZJ (ZJ (usR p 2) p).1 p).1=[]:=by
 have e:usR p 2=[(p,⟨2,8,false⟩)]:=rfl
 rw [e]
 unfold ZJ qaw
 simp [Zh,qb6]
theorem qV.as {G:Lf} (h:qV lb T F HF) (e:F=G):qV lb T G HF:=e ▸ h
theorem QsC.end_ {k:Int} (h:QsC n p (qx2 k) F) (hn:n<4):∀ G,G=kQ (n+1) (qaX (qx2 k) F) 3→(qbD G 0 ⟨0,1⟩).2=7∧Go.Proofs.YtincjohoncljoaaGreatDoor.stateA G.Ws G.Qt G.At 0=0∧Go.Proofs.YtincjohoncljoaaGreatDoor.stateW G.Qw G.Aw 0=0∧qec G.us p=0∧G.dy=[]:=by
 intro G eG
 obtain ⟨st,hat⟩:=h.at0
 have hlt:=(List.getElem?_eq_some_iff.1 hat).1
 have hlw:=(List.getElem?_eq_some_iff.1 h.aw0).1
 have hp:=h.pr
 have eAt:G.At=F.At.set 0 Qy:=by
  rw [eG,q_at hn,qds (by decide),qdr (by rfl)]; rfl
 have eAw:G.Aw=F.Aw.set 0 QE:=by
  rw [eG,q_aw hn]; unfold z9; rfl
 have hz0:(G.At)[0]?=some Qy:=by rw [eAt]; exact List.getElem?_set_self hlt
 have hw0:(G.Aw)[0]?=some QE:=by rw [eAw]; exact List.getElem?_set_self hlw
 refine ⟨?_,?_,?_,?_,by rw [eG,q_dy hn]⟩
 ·have hm:JC G 0=some (((qx2 k).free ⟨0,1⟩).1,false):=by unfold JC; rw [eG,q_ms hn]; rfl
  unfold qbD; rw [hm]; dsimp only
  rw [qpn,if_neg (by decide)]
 ·unfold Go.Proofs.YtincjohoncljoaaGreatDoor.stateA Xv
  rw [show ofA G.At 0=Qy from qaZ (i:=0) (by decide) hz0]; rfl
 ·unfold Go.Proofs.YtincjohoncljoaaGreatDoor.stateW
  rw [show ofW G.Aw 0=QE from Xx (i:=0) (by decide) hw0]; rfl
 ·obtain ⟨u1,u2,u3⟩:=q_u2 hn (qaX (qx2 k) F)
  have ea:ofA (kQ (n+1) (qaX (qx2 k) F) 2).At ((0:Nat):Int)=⟨true,true,p+1,st⟩:=by rw [u2]; exact qaZ (by decide) hat
  have ew:ofW (kQ (n+1) (qaX (qx2 k) F) 2).Aw ((0:Nat):Int)=⟨true,p+1⟩:=by rw [u3]; exact Xx (by decide) h.aw0
  have e1:us1 (kQ (n+1) (qaX (qx2 k) F) 2) 0=(ZJ (usR p 2) p).1:=by
   unfold us1
   rw [ea,u1]
   dsimp only
   rw [if_pos (by omega),show max (p+1-1) 0=p by omega,show (qaX (qx2 k) F).us=F.us from rfl,h.us]
  have e2:G.us=[]:=by
   rw [eG,q_us hn]
   unfold us2
   rw [ew,e1]
   dsimp only
   rw [if_pos (by omega),show max (p+1-1) 0=p by omega]
   exact qna p
  rw [e2]; rfl
end Go.Proofs.YtincjohoncljoaaGreatDoor
namespace Go.Proofs.YtincjohoncljoaaGreatDoor
open Go Go.Sl
attribute [local irreducible] W
attribute [local irreducible] kQ Jv qx1 qx2 Y1 K1 Xn qbD cbF wkF inF Z1 qbf
set_option maxRecDepth 100000
theorem qeS {w0:World} {H:qg} {z pr k:Int} {a:Nat} {dv pv:Bool} (hk:0≤k∧k<18446744073709551616) (ha:a≤18446744073709551615) (hT:Tab w0):qh Tryz.prog w0 6 #[zi z,zi pr,zu k,zu ((a:Nat):Int),.bool dv,.bool pv] (H) (fun v H'=>v=.bool true∧H'=H):=by
 obtain ⟨p,hp16,hp⟩:=modL pr (N:=16) zd
 have hpr:0≤(p:Int)∧(p:Int)<16:=⟨by omega,by omega⟩
 refine qc (l:=[zi z,zi pr,zu k,zu ((a:Nat):Int),.bool dv,.bool pv]) Tryz.func6 rfl Tryz.ntmps6 rfl rfl ?_
 refine za 5 rfl ?_
 refine qk (zc1 rfl) Tryz.call9 rfl ((qmP z hT (H:=H)).hsub (.refl _)) ?_
 rintro v H' ⟨n,lb,Ws,HF,hn4,rfl,hF,hWl,hfr,rfl⟩
 refine za 15 rfl ?_
 refine Jh (m:=IntKind.u64.wrap pr) rfl ty3 zJ rfl rfl ?_
 refine qE rfl rfl (YK zd (m:=(p:Int)) hp) rfl ?_
 refine Jh rfl zJ ty3 (zg zO) rfl (za 5 rfl ?_)
 refine qy (l:=[zu 1]) ZN zJ (.cons rfl rfl rfl rfl rfl .nil) rfl rfl rfl rfl rfl rfl rfl (fun b50=>?_)
 refine qk (zc5 rfl rfl rfl rfl rfl) Tryz.call14 rfl ((hF.put hT zd (m:=0) (how:=0) (k:=k) (ws:=[1]) hk (fun HZ=>Holds.own (b:=b50) (List.mem_append_right _ List.mem_cons_self)) (capw:=1) (H:=(b50,.cells 30 (1*1) [zu 1])::H)).hsub zH) ?_
 rintro v H' ⟨HF1,hF1,rfl,rfl⟩
 have eP:=q_put (n+1) Ws k
 rw [show (K1 (sF (n+1) Ws) 0 0 k [1]).2.1=⟨0,1⟩ by rw [eP],show (K1 (sF (n+1) Ws) 0 0 k [1]).2.2=0 by rw [eP]]
 rw [eP] at hF1
 dsimp only at hF1
 obtain ⟨F1,eF1⟩:∃ F1:Lf,F1={ lf0 (n+1) Ws with ms:=[some (qx1 k,false),none,none,none] }:=⟨_,rfl⟩
 replace hF1:qV lb (8+2) F1 HF1:=by rw [eF1]; exact hF1
 obtain ⟨i0,c0,w0_,hB,hWs,hQw⟩:=qA hpr hfr F1 eF1
 refine za 3 rfl ?_
 refine qp (l:=hdC zHd) qR rfl rfl (fun b15=>?_)
 refine ql (l':=hdC ⟨0,1⟩) rfl rfl qR rfl rfl (b:=b15) zM (by exact Nat.le_refl 2) rfl zU ?_
 refine za 4 rfl ?_
 refine qJ (vs:=hdC ⟨0,1⟩) rfl qR rfl (b:=b15) zM rfl rfl rfl ?_
 refine qn (zc3 rfl rfl rfl) Tryz.call16 rfl (hF1.number (fun p hp=>by first | exact List.mem_append_left _ hp | exact List.mem_cons_of_mem _ (List.mem_append_left _ hp) | exact List.mem_cons_of_mem _ (List.mem_cons_of_mem _ (List.mem_append_left _ hp)) | (repeat (first | exact List.mem_append_left _ hp | apply List.mem_cons_of_mem | apply List.mem_append_right))) (m:=0) (h:=⟨0,1⟩)) ?_
 rw [show qbD F1 0 ⟨0,1⟩=(0,0) by rw [eF1]; exact q_num _ _ _]
 refine za 10 rfl ?_
 rw [decide_eq_false (by decide)]
 refine za 5 rfl ?_
 rw [decide_eq_false (by decide)]
 refine za 5 rfl ?_
 obtain ⟨tb,hTq,hTi⟩:=hF1.timers
 refine qn (zc1 rfl) Tryz.call21 rfl (hTq _ _ (fun p hp=>by first | exact List.mem_append_left _ hp | exact List.mem_cons_of_mem _ (List.mem_append_left _ hp) | exact List.mem_cons_of_mem _ (List.mem_cons_of_mem _ (List.mem_append_left _ hp)) | (repeat (first | exact List.mem_append_left _ hp | apply List.mem_cons_of_mem | apply List.mem_append_right)))) ?_
 refine za 3 rfl (qk (zc2 rfl rfl) Tryz.call22 rfl ((hTi _ ((b15,.cells 40 2 (hdC ⟨0,1⟩))::H) 0).hsub zH) ?_)
 rintro v H' ⟨HF2,hF2,rfl,rfl⟩
 rw [i0]
 refine za 2 rfl ?_
 rw [decide_eq_false (by decide)]
 refine za 9 rfl ?_
 refine qk (zc3 rfl rfl rfl) Tryz.call23 rfl ((hF2.callback (z:=0) (p:=(p:Int)) (H:=(b15,.cells 40 2 (hdC ⟨0,1⟩))::H)).hsub zH) ?_
 rintro v H' ⟨HF3,hF3,rfl,rfl⟩
 rw [c0]
 refine za 2 rfl ?_
 rw [decide_eq_false (by decide)]
 refine za 9 rfl ?_
 refine qk (zc3 rfl rfl rfl) Tryz.call20 rfl ((hF3.work (z:=0) (p:=(p:Int)) (H:=(b15,.cells 40 2 (hdC ⟨0,1⟩))::H)).hsub zH) ?_
 rintro v H' ⟨HF4,hF4,rfl,rfl⟩
 rw [w0_]
 obtain ⟨F4,eF4⟩:∃ F4,F4=(wkF (cbF (inF F1 0).1 0 (p:Int)).1 0 (p:Int)).1:=⟨_,rfl⟩
 rw [← eF4] at hF4 hB hWs hQw
 clear eF4
 refine za 2 rfl ?_
 rw [decide_eq_false (by decide)]
 refine za 7 rfl ?_
 refine qn (zc2 rfl rfl) Tryz.call24 rfl (hF4.users (fun p hp=>by first | exact List.mem_append_left _ hp | exact List.mem_cons_of_mem _ (List.mem_append_left _ hp) | exact List.mem_cons_of_mem _ (List.mem_cons_of_mem _ (List.mem_append_left _ hp)) | (repeat (first | exact List.mem_append_left _ hp | apply List.mem_cons_of_mem | apply List.mem_append_right))) (p:=(p:Int))) ?_
 rw [hB.us,qpU,if_pos (show 2<8 by decide)]
 refine za 2 rfl ?_
 rw [decide_eq_false (by decide)]
 refine za 6 rfl ?_
 obtain ⟨tb,hTq,hTi⟩:=hF4.tStart zd
 refine qn (zc1 rfl) Tryz.call21 rfl (hTq _ _ (fun p hp=>by first | exact List.mem_append_left _ hp | exact List.mem_cons_of_mem _ (List.mem_append_left _ hp) | exact List.mem_cons_of_mem _ (List.mem_cons_of_mem _ (List.mem_append_left _ hp)) | (repeat (first | exact List.mem_append_left _ hp | apply List.mem_cons_of_mem | apply List.mem_append_right)))) ?_
 refine za 2 rfl (qk (zc4 rfl rfl rfl rfl) Tryz.call31 rfl ((hTi _ ((b15,.cells 40 2 (hdC ⟨0,1⟩))::H) 0 0 a ha).hsub zH) ?_)
 rintro v H' ⟨Ws5,Q5,At5,s5,e5,HF5,hS5,hF5,rfl,rfl⟩
 obtain ⟨rfl,hdue,hB5⟩:=hB.start (by rw [hWs,hWl]) (by rw [hWs]; exact hfr) hS5
 obtain ⟨F5,eF5⟩:∃ F5:Lf,F5={ F4 with Ws:=Ws5,Qt:=Q5,At:=At5 }:=⟨_,rfl⟩
 have hQ5:F5.Qw=[]:=by rw [eF5]; exact hQw
 rw [← eF5] at hF5 hB5
 clear eF5
 refine za 3 rfl ?_
 refine qp (l:=qN.v) zj rfl rfl (fun b19=>?_)
 refine ql (l':=Qu.v s5) rfl rfl zj rfl rfl (b:=b19) zM (by exact Nat.le_refl 4) rfl zU ?_
 refine za 6 rfl ?_
 rw [decide_eq_false (by decide)]
 refine za 4 rfl ?_
 refine Kx (X:=(Lf × qg)) (fun _=>[(1,zi (p:Int)),(2,zu k),(5,.bool pv),(13,zp lb),(15,zp b15),(17,zi 0)]) (fun x=>x.2++((b19,.cells 71 4 (Qu.v s5))::(b15,.cells 40 2 (hdC ⟨0,1⟩))::H)) (fun x=>qV lb (8+2+1) x.1 x.2∧QsB n (p:Int) (qx1 k) x.1∧x.1.Qw=[]) ?_ ?_
 ·skip
  refine za 2 rfl ?_
  cases dv
  ·skip
   refine za 3 rfl ?_
   refine QV (F5,HF5) ⟨hF5,hB5,hQ5⟩ (qa rfl (qa rfl (qa rfl (qa rfl (qa rfl (qa rfl (qi _))))))) zH
  ·skip
   refine za 2 rfl ?_
   refine W_anyC [(b19,.cells 71 4 (Qu.v s5))] zk ?_
   refine zw [0,2] rfl rfl ?_
   refine WC_take 3 rfl zK zK zK rfl rfl (qj (v:=zu (s5.due:Int)) rfl zJ rfl (qf.own (b:=b19) zM rfl)) rfl ?_
   refine WC_one 1 zH zK rfl rfl ?_
   obtain ⟨tb,hTq,hTi⟩:=hF5.tCatch
   refine qn (zc1 rfl) Tryz.call21 rfl (hTq _ _ (fun p hp=>by first | exact List.mem_append_left _ hp | exact List.mem_cons_of_mem _ (List.mem_append_left _ hp) | exact List.mem_cons_of_mem _ (List.mem_cons_of_mem _ (List.mem_append_left _ hp)) | (repeat (first | exact List.mem_append_left _ hp | apply List.mem_cons_of_mem | apply List.mem_append_right)))) ?_
   refine qs (WC_goal ?_)
   refine WC_one 4 zH zK rfl rfl ?_
   refine qk (zc3 rfl rfl rfl) Tryz.call32 rfl ((hTi _ ((b19,.cells 71 4 (Qu.v s5))::(b15,.cells 40 2 (hdC ⟨0,1⟩))::H) 0 s5.due hdue hT).hsub zH) ?_
   rintro v H' ⟨Ws6,O6,HF6,hC6,hF6,rfl⟩
   have hB6:=hB5.catch hC6
   obtain ⟨F6,eF6⟩:∃ F6:Lf,F6={ F5 with Ws:=Ws6,Qt:=(Za F5.n F5.Qt 0 (O6.map (·.id))).1 }:=⟨_,rfl⟩
   have hQ6:F6.Qw=[]:=by rw [eF6]; exact hQ5
   rw [← eF6] at hF6 hB6
   clear eF6
   refine qs (WC_goal (WC_done zH zK ?_))
   refine QV (F6,HF6) ⟨hF6,hB6,hQ6⟩ (qa rfl (qa rfl (qa rfl (qa rfl (qa rfl (qa rfl (qi _))))))) zH
 rintro ⟨F6,HF6⟩ ⟨hF6,hB6,hQ6⟩
 dsimp only at hF6 hB6 hQ6 ⊢
 refine Kv ?_
 refine Kx (X:=(Lf × qg)) (fun _=>[(1,zi (p:Int)),(2,zu k),(13,zp lb),(15,zp b15),(17,zi 0)]) (fun x=>x.2++((b19,.cells 71 4 (Qu.v s5))::(b15,.cells 40 2 (hdC ⟨0,1⟩))::H)) (fun x=>qV lb 11 x.1 x.2∧QsB n (p:Int) (qx1 k) x.1) ?_ ?_
 ·skip
  refine za 2 rfl ?_
  cases pv
  ·skip
   refine za 10 rfl ?_
   refine QV (F6,HF6) ⟨hF6,hB6⟩ (qa rfl (qa rfl (qa rfl (qa rfl (qa rfl (qi _)))))) zH
  ·skip
   refine za 4 rfl ?_
   obtain ⟨wb,hTq,hTi⟩:=hF6.wPost (i:=0) (k:=0) hB6.aw0 (by decide) (by rw [hB6.nn]; omega)
   refine qn (zc1 rfl) Tryz.call30 rfl (hTq _ _ (fun p hp=>by first | exact List.mem_append_left _ hp | exact List.mem_cons_of_mem _ (List.mem_append_left _ hp) | exact List.mem_cons_of_mem _ (List.mem_cons_of_mem _ (List.mem_append_left _ hp)) | (repeat (first | exact List.mem_append_left _ hp | apply List.mem_cons_of_mem | apply List.mem_append_right)))) ?_
   refine za 3 rfl (qk (zc3 rfl rfl rfl) Tryz.call33 rfl ((hTi _ ((b19,.cells 71 4 (Qu.v s5))::(b15,.cells 40 2 (hdC ⟨0,1⟩))::H)).hsub zH) ?_)
   rintro v H' ⟨HF7,hF7,rfl,rfl⟩
   obtain ⟨ep,hB7⟩:=hB6.post hQ6
   rw [ep]
   obtain ⟨F7,eF7⟩:∃ F7:Lf,F7={ F6 with Qw:=(Z1 F6.n F6.Qw ⟨false,(p:Int)+1⟩ 0 0).1 }:=⟨_,rfl⟩
   rw [← eF7] at hF7 hB7
   clear eF7
   refine za 2 rfl ?_
   rw [decide_eq_false (by decide)]
   refine za 4 rfl ?_
   refine QV (F7,HF7) ⟨hF7,hB7⟩ (qa rfl (qa rfl (qa rfl (qa rfl (qa rfl (qi _)))))) zH
 rintro ⟨F7,HF7⟩ ⟨hF7,hB7⟩
 dsimp only at hF7 hB7 ⊢
 refine za 4 rfl ?_
 refine qk (zc3 rfl rfl rfl) Tryz.call17 rfl ((hF7.drop (m:=0) (k:=k) (H:=(b19,.cells 71 4 (Qu.v s5))::(b15,.cells 40 2 (hdC ⟨0,1⟩))::H)).hsub zH) ?_
 rintro v H' ⟨HF8,hF8,rfl,rfl⟩
 obtain ⟨ed,hC⟩:=hB7.drop
 rw [ed]
 obtain ⟨F8,eF8⟩:∃ F8,F8=(Y1 F7 0 k).1:=⟨_,rfl⟩
 rw [← eF8] at hF8 hC
 clear eF8
 refine za 1 rfl ?_
 rw [decide_eq_false (by decide)]
 refine za 4 rfl ?_
 obtain ⟨tb,hTq,hTi⟩:=hF8.tState
 refine qn (zc1 rfl) Tryz.call21 rfl (hTq _ _ (fun p hp=>by first | exact List.mem_append_left _ hp | exact List.mem_cons_of_mem _ (List.mem_append_left _ hp) | exact List.mem_cons_of_mem _ (List.mem_cons_of_mem _ (List.mem_append_left _ hp)) | (repeat (first | exact List.mem_append_left _ hp | apply List.mem_cons_of_mem | apply List.mem_append_right)))) ?_
 refine za 3 rfl (qk (zc2 rfl rfl) Tryz.call34 rfl ((hTi _ ((b19,.cells 71 4 (Qu.v s5))::(b15,.cells 40 2 (hdC ⟨0,1⟩))::H) 0).hsub zH) ?_)
 rintro v H' ⟨HF9,hHF9,rfl,rfl⟩
 rw [hC.stateA]
 refine za 2 rfl ?_
 rw [decide_eq_false (by decide)]
 refine za 5 rfl ?_
 obtain ⟨wb,hTq,hTi⟩:=hHF9.wState
 refine qn (zc1 rfl) Tryz.call30 rfl (hTq _ _ (fun p hp=>by first | exact List.mem_append_left _ hp | exact List.mem_cons_of_mem _ (List.mem_append_left _ hp) | exact List.mem_cons_of_mem _ (List.mem_cons_of_mem _ (List.mem_append_left _ hp)) | (repeat (first | exact List.mem_append_left _ hp | apply List.mem_cons_of_mem | apply List.mem_append_right)))) ?_
 refine za 3 rfl (qk (zc2 rfl rfl) Tryz.call35 rfl ((hTi _ ((b19,.cells 71 4 (Qu.v s5))::(b15,.cells 40 2 (hdC ⟨0,1⟩))::H) 0).hsub zH) ?_)
 rintro v H' ⟨HF10,hHF10,rfl,rfl⟩
 rw [hC.stateW]
 refine za 2 rfl ?_
 rw [decide_eq_false (by decide)]
 refine za 7 rfl ?_
 refine qk (zc3 rfl rfl rfl) Tryz.call15 rfl ((hHF10.find (m:=0) (k:=k) zd (H:=(b19,.cells 71 4 (Qu.v s5))::(b15,.cells 40 2 (hdC ⟨0,1⟩))::H)).hsub zH) ?_
 rintro v H' ⟨HF11,hF11,rfl,rfl⟩
 have ef:=hC.find
 rw [show (Xn F8 0 k).2.1=zHd by rw [ef],show (Xn F8 0 k).2.2=4 by rw [ef]]
 rw [show (Xn F8 0 k).1=F8 by rw [ef]] at hF11
 refine za 3 rfl ?_
 refine qp (l:=hdC zHd) qR rfl rfl (fun b21=>?_)
 refine ql (l':=hdC zHd) rfl rfl qR rfl rfl (b:=b21) zM (by exact Nat.le_refl 2) rfl zU ?_
 refine za 4 rfl ?_
 obtain ⟨tb,hTq,hTi⟩:=hF11.tCatch
 refine qn (zc1 rfl) Tryz.call21 rfl (hTq _ _ (fun p hp=>by first | exact List.mem_append_left _ hp | exact List.mem_cons_of_mem _ (List.mem_append_left _ hp) | exact List.mem_cons_of_mem _ (List.mem_cons_of_mem _ (List.mem_append_left _ hp)) | (repeat (first | exact List.mem_append_left _ hp | apply List.mem_cons_of_mem | apply List.mem_append_right)))) ?_
 refine qk (zc3 rfl rfl rfl) Tryz.call32 rfl ((hTi _ ((b21,.cells 40 2 (hdC zHd))::(b19,.cells 71 4 (Qu.v s5))::(b15,.cells 40 2 (hdC ⟨0,1⟩))::H) 0 18446744073709551614 zd hT).hsub zH) ?_
 rintro v H' ⟨Ws12,O12,HF12,hC12,hF12,rfl⟩
 have hD:=hC.catch hC12
 obtain ⟨F12,eF12⟩:∃ F12:Lf,F12={ F8 with Ws:=Ws12,Qt:=(Za F8.n F8.Qt 0 (O12.map (·.id))).1 }:=⟨_,rfl⟩
 rw [← eF12] at hF12 hD
 clear eF12
 refine za 3 rfl ?_
 obtain ⟨tb,hTq,hTi⟩:=hF12.tBegin (k:=0) (by rw [hD.nn]; omega) hD.rt (by rw [hD.qt]; rfl)
 refine qn (zc1 rfl) Tryz.call21 rfl (hTq _ _ (fun p hp=>by first | exact List.mem_append_left _ hp | exact List.mem_cons_of_mem _ (List.mem_append_left _ hp) | exact List.mem_cons_of_mem _ (List.mem_cons_of_mem _ (List.mem_append_left _ hp)) | (repeat (first | exact List.mem_append_left _ hp | apply List.mem_cons_of_mem | apply List.mem_append_right)))) ?_
 refine qk (zc3 rfl rfl rfl) Tryz.call36 rfl ((hTi _ ((b21,.cells 40 2 (hdC zHd))::(b19,.cells 71 4 (Qu.v s5))::(b15,.cells 40 2 (hdC ⟨0,1⟩))::H)).hsub zH) ?_
 rintro v H' ⟨HF13,hF13,rfl,rfl⟩
 refine za 10 rfl ?_
 obtain ⟨wb,hTq,hTi⟩:=hF13.wBegin (k:=0) (by rw [hD.nn]; omega) hD.rw_ (by rw [hD.qw]; rfl) hD.on
 refine qn (zc1 rfl) Tryz.call30 rfl (hTq _ _ (fun p hp=>by first | exact List.mem_append_left _ hp | exact List.mem_cons_of_mem _ (List.mem_append_left _ hp) | exact List.mem_cons_of_mem _ (List.mem_cons_of_mem _ (List.mem_append_left _ hp)) | (repeat (first | exact List.mem_append_left _ hp | apply List.mem_cons_of_mem | apply List.mem_append_right)))) ?_
 refine qk (zc3 rfl rfl rfl) Tryz.call37 rfl ((hTi _ ((b21,.cells 40 2 (hdC zHd))::(b19,.cells 71 4 (Qu.v s5))::(b15,.cells 40 2 (hdC ⟨0,1⟩))::H)).hsub zH) ?_
 rintro v H' ⟨HF14,hF14,rfl,rfl⟩
 refine za 10 rfl ?_
 obtain ⟨tb,hTq,hTi⟩:=hF14.tStart zd
 refine qn (zc1 rfl) Tryz.call21 rfl (hTq _ _ (fun p hp=>by first | exact List.mem_append_left _ hp | exact List.mem_cons_of_mem _ (List.mem_append_left _ hp) | exact List.mem_cons_of_mem _ (List.mem_cons_of_mem _ (List.mem_append_left _ hp)) | (repeat (first | exact List.mem_append_left _ hp | apply List.mem_cons_of_mem | apply List.mem_append_right)))) ?_
 refine qD rfl rfl (qk (zc4 rfl rfl rfl rfl) Tryz.call31 rfl ((hTi _ ((b21,.cells 40 2 (hdC zHd))::(b19,.cells 71 4 (Qu.v s5))::(b15,.cells 40 2 (hdC ⟨0,1⟩))::H) 0 0 18446744073709551615 zd).hsub zH) ?_)
 rintro v H' ⟨Ws15,Q15,At15,s15,e15,HF15,hS15,hF15,rfl,rfl⟩
 obtain ⟨rfl,eF⟩:=hD.start hS15
 rw [eF] at hF15
 refine za 3 rfl ?_
 refine qp (l:=qN.v) zj rfl rfl (fun b29=>?_)
 refine ql (l':=Qu.v s15) rfl rfl zj rfl rfl (b:=b29) zM (by exact Nat.le_refl 4) rfl zU ?_
 refine za 4 rfl ?_
 obtain ⟨wb,hTq,hTi⟩:=hF15.wPost (i:=0) (k:=0) hD.aw0 (by decide) (by rw [hD.nn]; omega)
 refine qn (zc1 rfl) Tryz.call30 rfl (hTq _ _ (fun p hp=>by first | exact List.mem_append_left _ hp | exact List.mem_cons_of_mem _ (List.mem_append_left _ hp) | exact List.mem_cons_of_mem _ (List.mem_cons_of_mem _ (List.mem_append_left _ hp)) | (repeat (first | exact List.mem_append_left _ hp | apply List.mem_cons_of_mem | apply List.mem_append_right)))) ?_
 refine qD rfl rfl (qk (zc3 rfl rfl rfl) Tryz.call33 rfl ((hTi _ ((b29,.cells 71 4 (Qu.v s15))::(b21,.cells 40 2 (hdC zHd))::(b19,.cells 71 4 (Qu.v s5))::(b15,.cells 40 2 (hdC ⟨0,1⟩))::H)).hsub zH) ?_)
 rintro v H' ⟨HF16,hF16,rfl,rfl⟩
 have ep2:=hD.post
 rw [show (Z1 F12.n F12.Qw ⟨true,(p:Int)+1⟩ 0 0).2=22 by rw [ep2]]
 rw [ep2] at hF16
 replace hF16:qV lb _ F12 HF16:=hF16
 refine za 6 rfl ?_
 rw [decide_eq_false (by decide)]
 refine za 5 rfl ?_
 rw [decide_eq_false (by decide)]
 refine za 6 rfl ?_
 rw [decide_eq_false (by decide)]
 refine za 6 rfl ?_
 rw [decide_eq_false (by decide)]
 refine za 6 rfl ?_
 rw [decide_eq_false (by decide)]
 refine za 9 rfl ?_
 refine qk (zc3 rfl rfl rfl) Tryz.call23 rfl ((hF16.callback (z:=0) (p:=(p:Int)) (H:=(b29,.cells 71 4 (Qu.v s15))::(b21,.cells 40 2 (hdC zHd))::(b19,.cells 71 4 (Qu.v s5))::(b15,.cells 40 2 (hdC ⟨0,1⟩))::H)).hsub zH) ?_
 rintro v H' ⟨HF17,hF17,rfl,rfl⟩
 rw [show (cbF F12 0 (p:Int)).2=22 by rw [hD.call]]
 rw [hD.call] at hF17
 replace hF17:qV lb _ F12 HF17:=hF17
 refine za 2 rfl ?_
 rw [decide_eq_false (by decide)]
 refine za 9 rfl ?_
 refine qk (zc3 rfl rfl rfl) Tryz.call20 rfl ((hF17.work (z:=0) (p:=(p:Int)) (H:=(b29,.cells 71 4 (Qu.v s15))::(b21,.cells 40 2 (hdC zHd))::(b19,.cells 71 4 (Qu.v s5))::(b15,.cells 40 2 (hdC ⟨0,1⟩))::H)).hsub zH) ?_
 rintro v H' ⟨HF18,hF18,rfl,rfl⟩
 rw [show (wkF F12 0 (p:Int)).2=22 by rw [hD.work]]
 rw [hD.work] at hF18
 replace hF18:qV lb _ F12 HF18:=hF18
 replace hF18:=hF18.as hD.is
 refine za 2 rfl ?_
 rw [decide_eq_false (by decide)]
 refine za 12 rfl ?_
 refine qU (X:=(Nat × qg)) [(1,_),(13,_),(15,_),(17,_)] (fun (z:(Nat × qg))=>[(32,zi (if z.1<3 then 0 else 1)),(33,zi (z.1:Int))]) (fun _=>_) (fun (z:(Nat × qg))=>z.2++((b29,.cells 71 4 (Qu.v s15))::(b21,.cells 40 2 (hdC zHd))::(b19,.cells 71 4 (Qu.v s5))::(b15,.cells 40 2 (hdC ⟨0,1⟩))::H)) (fun (z:(Nat × qg))=>z.1≤20∧qV lb 13 (kQ (n+1) (qaX (qx2 k) F12) z.1) z.2) (fun (z:(Nat × qg))=>20-z.1) (0,HF18) ⟨Nat.zero_le _,hF18⟩ (qa rfl (qa rfl (qa rfl (qa rfl (qi _))))) (qa rfl (qa rfl (qi _))) rfl zH ?_
 rintro ⟨i,HP⟩ ⟨hi,hP⟩
 dsimp only at hi hP ⊢
 simp only [List.cons_append,List.nil_append]
 refine za 5 rfl ?_
 refine qm (p:=(i:Int)<20) rfl (by simp) (fun c0=>?_) (fun c0=>?_)
 ·skip
  refine za 6 rfl ?_
  obtain ⟨⟨b1,b2⟩,z1,z2,ln⟩:=qpl hn4 (qaX (qx2 k) F12) i
  refine qk (zc1 rfl) Tryz.call18 rfl ((qV.poll (F0:=(kQ (n+1) (qaX (qx2 k) F12) i)) hP b1 b2 z1 z2 hT (H:=(b29,.cells 71 4 (Qu.v s15))::(b21,.cells 40 2 (hdC zHd))::(b19,.cells 71 4 (Qu.v s5))::(b15,.cells 40 2 (hdC ⟨0,1⟩))::H)).hsub zH) ?_
  rintro v H' ⟨HP2,XP,hP2,hO,rfl⟩
  rw [qny] at hP2
  obtain ⟨adp,capp,rfl,_,_,_⟩:=Holds.of_own (w0:=w0) (H:=XP++[]) hO (fun p hp=>List.mem_append_left _ hp)
  rw [ln]
  refine zZ rfl qbB rfl rfl ?_
  refine qE rfl rfl (qQ (m:=if i+1<3 then 0 else 1) ((zg (by split <;> split <;> omega)).trans (by split <;> split <;> split <;> omega))) rfl ?_
  refine za 5 rfl ?_
  refine qE rfl rfl (qQ (m:=((i+1:Nat):Int)) ((zg zO).trans zO)) rfl ?_
  refine za 2 rfl ?_
  refine qP (i+1,HP2) ⟨by show i+1≤20; omega,hP2⟩ (by show 20-(i+1)<20-i; omega) (qa rfl (qa rfl (qa rfl (qa rfl (qa rfl (qa rfl (qi _))))))) rfl zH
 ·skip
  refine za 2 rfl ?_
  obtain rfl:i=20:=by omega
  have eG:(kQ (n+1) (qaX (qx2 k) F12) 20)=(kQ (n+1) (qaX (qx2 k) F12) 3):=q_20 hn4 _
  obtain ⟨g1,g2,g3,g4,g5⟩:=hD.end_ hn4 _ eG
  refine qD rfl rfl ?_
  refine qJ (vs:=hdC ⟨0,1⟩) rfl qR rfl (b:=b15) zM rfl rfl rfl ?_
  refine qn (zc3 rfl rfl rfl) Tryz.call16 rfl (hP.number (fun p hp=>by first | exact List.mem_append_left _ hp | exact List.mem_cons_of_mem _ (List.mem_append_left _ hp) | exact List.mem_cons_of_mem _ (List.mem_cons_of_mem _ (List.mem_append_left _ hp)) | (repeat (first | exact List.mem_append_left _ hp | apply List.mem_cons_of_mem | apply List.mem_append_right))) (m:=0) (h:=⟨0,1⟩)) ?_
  rw [g1]
  refine za 7 rfl (qT .nil Tryz.call19 rfl hT qeR (za 5 rfl ?_))
  rw [decide_eq_true (by rfl)]
  refine za 6 rfl ?_
  rw [decide_eq_true (by rfl)]
  refine za 5 rfl ?_
  obtain ⟨tb,hTq,hTi⟩:=hP.tState
  refine qn (zc1 rfl) Tryz.call21 rfl (hTq _ _ (fun p hp=>by first | exact List.mem_append_left _ hp | exact List.mem_cons_of_mem _ (List.mem_append_left _ hp) | exact List.mem_cons_of_mem _ (List.mem_cons_of_mem _ (List.mem_append_left _ hp)) | (repeat (first | exact List.mem_append_left _ hp | apply List.mem_cons_of_mem | apply List.mem_append_right)))) ?_
  refine za 3 rfl (qk (zc2 rfl rfl) Tryz.call34 rfl ((hTi _ ((b29,.cells 71 4 (Qu.v s15))::(b21,.cells 40 2 (hdC zHd))::(b19,.cells 71 4 (Qu.v s5))::(b15,.cells 40 2 (hdC ⟨0,1⟩))::H) 0).hsub zH) ?_)
  rintro v H' ⟨HP3,hHP3,rfl,rfl⟩
  rw [g2]
  refine za 2 rfl ?_
  rw [decide_eq_true (by rfl)]
  refine za 5 rfl ?_
  obtain ⟨wb,hTq,hTi⟩:=hHP3.wState
  refine qn (zc1 rfl) Tryz.call30 rfl (hTq _ _ (fun p hp=>by first | exact List.mem_append_left _ hp | exact List.mem_cons_of_mem _ (List.mem_append_left _ hp) | exact List.mem_cons_of_mem _ (List.mem_cons_of_mem _ (List.mem_append_left _ hp)) | (repeat (first | exact List.mem_append_left _ hp | apply List.mem_cons_of_mem | apply List.mem_append_right)))) ?_
  refine za 3 rfl (qk (zc2 rfl rfl) Tryz.call35 rfl ((hTi _ ((b29,.cells 71 4 (Qu.v s15))::(b21,.cells 40 2 (hdC zHd))::(b19,.cells 71 4 (Qu.v s5))::(b15,.cells 40 2 (hdC ⟨0,1⟩))::H) 0).hsub zH) ?_)
  rintro v H' ⟨HP4,hHP4,rfl,rfl⟩
  rw [g3]
  refine za 2 rfl ?_
  rw [decide_eq_true (by rfl)]
  refine za 7 rfl ?_
  refine qn (zc2 rfl rfl) Tryz.call24 rfl (hHP4.users (fun p hp=>by first | exact List.mem_append_left _ hp | exact List.mem_cons_of_mem _ (List.mem_append_left _ hp) | exact List.mem_cons_of_mem _ (List.mem_cons_of_mem _ (List.mem_append_left _ hp)) | (repeat (first | exact List.mem_append_left _ hp | apply List.mem_cons_of_mem | apply List.mem_append_right))) (p:=(p:Int))) ?_
  rw [g4]
  refine za 2 rfl ?_
  rw [decide_eq_true (by rfl)]
  refine za 5 rfl ?_
  refine qk (zc1 rfl) Tryz.call28 rfl ((hHP4.dying (by rw [g5]; decide) (by rw [g5]; exact List.nodup_nil) (H:=(b29,.cells 71 4 (Qu.v s15))::(b21,.cells 40 2 (hdC zHd))::(b19,.cells 71 4 (Qu.v s5))::(b15,.cells 40 2 (hdC ⟨0,1⟩))::H)).hsub zH) ?_
  rintro v H' ⟨XD,hOD,rfl⟩
  rw [show dyK (kQ (n+1) (qaX (qx2 k) F12) 20).dy=[] by rw [g5]; exact List.mergeSort_nil] at hOD
  obtain ⟨adk,capk,rfl,_,_,_⟩:=Holds.of_own (w0:=w0) (H:=XD++[]) hOD (fun p hp=>List.mem_append_left _ hp)
  refine QD rfl rfl (zZ rfl qZ rfl rfl (za 2 rfl ?_))
  rw [decide_eq_true (by rfl)]
  refine za 3 rfl ?_
  refine qd (H2:=H) Tryz.results6 rfl (.nil _) zH ?_
  exact ⟨rfl,rfl⟩
theorem qcp {z pr k:Int} {a:Nat} {dv pv:Bool} (hk:0≤k∧k<18446744073709551616) (ha:a≤18446744073709551615):Qx Tryz.prog Tab 6 [zi z,zi pr,zu k,zu ((a:Nat):Int),.bool dv,.bool pv] (.bool true):=fun w0 H hT=>qeS hk ha hT
end Go.Proofs.YtincjohoncljoaaGreatDoor
