/-
  Own work: contracts of functions that the statement reaches, and plain facts on what they compute; each theorem says its conditions.
-/
import Derived.Test.YtincjohoncljoaaGreatDoorLhT7
import Derived.Test.YtincjohoncljoaaGreatDoorLhS3
import Derived.Test.YtincjohoncljoaaGreatDoorLhS2
import Derived.Test.YtincjohoncljoaaGreatDoorLhT4
import Derived.Test.YtincjohoncljoaaGreatDoorLhS1
import Derived.Lib.LaidTab
import Derived.Lib.LaidIn
import Derived.Stop.LaidErr
import Derived.Test.YtincjohoncljoaaGreatDoorCards
import Derived.Test.YtincjohoncljoaaGreatDoorTie
import Derived.Test.YtincjohoncljoaaGreatDoorLhT3
import Derived.Test.YtincjohoncljoaaGreatDoorLhA
set_option linter.all false
set_option linter.unusedSimpArgs false
set_option linter.unusedVariables false
set_option maxHeartbeats 16000000
namespace Go.Proofs.YtincjohoncljoaaGreatDoor
open Go Go.Sl
variable {F:Lf}
attribute [local irreducible] W
attribute [local irreducible] z8
def Qc (F:Lf) (l:List Int):Lf:=l.foldl (fun F z=>{ F with cl:=zV F.cl F.n z.toNat }) F
def Yl (F:Lf) (l:List Int):Lf × List Gn:=l.foldl (fun s z=>((z8 s.1 z.toNat).1,s.2++(z8 s.1 z.toNat).2)) (F,[])
def Kw (ms0:List (Option (Xm × Bool))) (s:List (Option (Xm × Bool)) × List Gn) (k:Nat):List (Option (Xm × Bool)) × List Gn:=match ms0[k]? with
 | some (some (x,true))=>if XT 1 x.L=0 then (s.1.set k none,s.2++[⟨(k:Int),0,0,true⟩]) else s
 | _=>s
def Kx (ms0:List (Option (Xm × Bool))) (out:List Gn):Nat→List (Option (Xm × Bool)) × List Gn
 | 0=>(ms0,out)
 | k+1=>Kw ms0 (Kx ms0 out k) k
def Jk (F:Lf):Lf × List Gn :=
 let F2:=Qc { F with tr:=(zj F.tr).1 } (zj F.tr).2
 let r:=Yl { F2 with cl:=(zj F2.cl).1 } (zj F2.cl).2
 ({ r.1 with ms:=(Kx r.1.ms r.2 4).1 },(Kx r.1.ms r.2 4).2)
theorem qf7 {l:List Int} {i:Nat} {z:Int} (h:l[i]?=some z):Qc F (l.take (i+1))={ Qc F (l.take i) with cl:=zV (Qc F (l.take i)).cl (Qc F (l.take i)).n z.toNat }:=by
 unfold Qc; rw [ZR h,List.foldl_append]; rfl
theorem qdv {l:List Int} {i:Nat} {z:Int} (h:l[i]?=some z):Yl F (l.take (i+1))=((z8 (Yl F (l.take i)).1 z.toNat).1,(Yl F (l.take i)).2++(z8 (Yl F (l.take i)).1 z.toNat).2):=by
 unfold Yl; rw [ZR h,List.foldl_append]; rfl
theorem qdx (F:Lf) (z:Nat):(z8 F z).2.length≤1:=by
 unfold z8; split
 ·exact Nat.zero_le _
 ·split
  ·exact Nat.zero_le _
  ·exact Nat.le_refl 1
theorem qhP {z:Nat} (hz:z<64) (hl:F.ms.length=4) (m:Int):(JK (z8 F z).1 m).isSome=(JK F m).isSome∧(z8 F z).1.ms.length=4:=by
 unfold z8
 split
 ·exact ⟨rfl,hl⟩
 ·split
  ·exact ⟨rfl,hl⟩
  ·rename_i x b hm
   refine ⟨?_,by show (F.ms.set _ _).length=4; rw [List.length_set]; exact hl⟩
   unfold JK
   by_cases c:0≤m∧m<4
   ·rw [if_pos c,if_pos c]
    show (((F.ms.set (z/16) _)[m.toNat]?).getD none).isSome=_
    by_cases e:z/16=m.toNat
    ·rw [e,List.getElem?_set_self (by omega)]
     unfold JK at hm
     rw [if_pos (by omega),Int.toNat_natCast,e] at hm
     rw [hm]; rfl
    ·rw [List.getElem?_set_ne e]
   ·rw [if_neg c,if_neg c]
theorem K3 {F:Lf} {l:List Int} (hl:F.ms.length=4) (hz:∀ z∈l,0≤z∧z<64) (m:Int):∀ i:Nat,(JK (Yl F (l.take i)).1 m).isSome=(JK F m).isSome∧(Yl F (l.take i)).1.ms.length=4∧(Yl F (l.take i)).2.length≤i
 | 0=>⟨rfl,hl,Nat.le_refl 0⟩
 | i+1=>by
  obtain ⟨h1,h2,h3⟩:=K3 hl hz m i
  cases hc:l[i]? with
  | none =>
   have:l.take (i+1)=l.take i:=by rw [List.take_add_one,hc]; simp
   rw [this]; exact ⟨h1,h2,by omega⟩
  | some z =>
   rw [qdv hc]
   have hr:=hz z (List.mem_of_getElem? hc)
   obtain ⟨e1,e2⟩:=qhP (F:=(Yl F (l.take i)).1) (z:=z.toNat) zO h2 m
   refine ⟨e1.trans h1,e2,?_⟩
   have:=qdx (Yl F (l.take i)).1 z.toNat
   rw [List.length_append]; omega
theorem qbu (F:Lf) (l:List Int):(Qc F l).n=F.n∧(Qc F l).ms=F.ms∧(Qc F l).cl.began=F.cl.began:=by
 unfold Qc
 induction l generalizing F with
 | nil=>exact ⟨rfl,rfl,rfl⟩
 | cons z l ih =>
  rw [List.foldl_cons]
  obtain ⟨h1,h2,h3⟩:=ih { F with cl:=zV F.cl F.n z.toNat }
  refine ⟨h1,h2,h3.trans ?_⟩
  show (zV F.cl F.n z.toNat).began=_
  unfold zV; split <;> rfl
theorem qmK {n:Nat} {M:List (Option Nat × Bool)} {tb wb g1 g2 rb db:Nat} (h:M.length=4):((qD n M tb wb g1 g2 rb db).drop 1).take 8=M.flatMap mcC:=by
 unfold qD
 rw [List.drop_succ_cons,List.drop_zero,List.take_append_of_le_length (by rw [zg ZH,h]; decide),List.take_of_length_le (by rw [zg ZH,h]; decide)]
theorem zr.poll {w0:World} {H:qe} {HF0:qe} {lb T:Nat} {F0:Lf} (hF0:zr lb T F0 HF0) (hb1:F0.tr.began<1000000000) (hb2:F0.cl.began<1000000000) (hid1:∀ z∈(zj F0.tr).2,0≤z∧z<64) (hid2:∀ z∈(zj (Qc { F0 with tr:=(zj F0.tr).1 } (zj F0.tr).2).cl).2,(0≤z∧z<64)∧(JK F0 (z/16)).isSome=true) (hT0:Tab w0):qk Tryz.prog w0 18 #[zp lb] (HF0++H) (fun v H'=>∃ HF' XG,zr lb T (Jk F0).1 HF'∧zz 50 4 v (Jk F0).2.length ((Jk F0).2.flatMap gnC) XG∧H'=XG++(HF'++H)):=by
 refine qd (l:=[zp lb]) Tryz.func18 rfl Tryz.ntmps18 rfl rfl ?_
 refine za 6 rfl ?_
 refine W_x (qE rfl rfl Ke) (fun _ h=>by cases h) rfl ?_
 refine za 8 rfl ?_
 cases hF0 with
 | @mk tb wb g1 g2 rb db M HT HW H1 H2 HR HD HM hT hO hW h1 o1 h2 o2 hR hU hD hM =>
 refine qT (H':=(lb,.cells 134 15 (qD F0.n M tb wb g1 g2 rb db))::(HT++(HW++(H1++(H2++(HR++(HD++(HM.flatten++H)))))))) (by simp only [List.cons_append,List.append_assoc,List.nil_append]; first | exact ZW | (repeat (first | with_reducible exact qr.refl _ | refine qr.cons zT ?_ | refine qr.app zS ?_ | exact qr.nil _ | exact qr.refl _ | refine qr.drop ?_ | refine qr.dropS ?_))) ?_
 refine za 3 rfl ?_
 refine qf (v:=zp g1) rfl XC rfl (qh.own (b:=lb) zM (Qj (j:=2) hM.m4)) rfl ?_
 have htl:=Kf h1
 obtain ⟨ids1,eI1⟩:∃ ids1,ids1=(zj F0.tr).2:=⟨_,rfl⟩
 have hil1:ids1.length≤64*F0.n:=by rw [eI1]; exact htl
 have o12:z9 F0.n (zj F0.tr).1:=o1.look.begin (by rw [KZ]; exact hb1)
 have hn64:=o1.n
 refine qn (zc1 rfl) Tryz.call69 rfl ((h1.poll o1 hb1 hT0 (H:=(lb,.cells 134 15 (qD F0.n M tb wb g1 g2 rb db))::(HT++(HW++(H2++(HR++(HD++(HM.flatten++H)))))))).hsub zH) ?_
 rintro v H' ⟨H12,XO1,h12,hO1,rfl⟩
 rw [← eI1] at hO1
 obtain ⟨ad1,cap1,rfl,hc1,hc2⟩:=hO1.shape
 have hrow1:∀ {H:qe},(∀ p∈XO1,p∈H)→Holds w0 H ad1 (ids1.map (Value.int .i64)):=fun hs=>zz.toHolds hO1 hs
 obtain ⟨F1,eF1⟩:∃ F1,F1=({ F0 with tr:=(zj F0.tr).1 }:Lf):=⟨_,rfl⟩
 have hF1:zr lb T F1 ((lb,.cells 134 15 (qD F0.n M tb wb g1 g2 rb db))::(HT++(HW++(H12++(H2++(HR++(HD++HM.flatten))))))):=by rw [eF1]; exact .mk (F:={ F0 with tr:=(zj F0.tr).1 }) hT hO hW h12 o12 h2 o2 hR hU hD hM
 refine qT (H':=XO1++(((lb,.cells 134 15 (qD F0.n M tb wb g1 g2 rb db))::(HT++(HW++(H12++(H2++(HR++(HD++HM.flatten)))))))++H)) (by simp only [List.cons_append,List.append_assoc,List.nil_append]; first | exact ZW | (repeat (first | with_reducible exact qr.refl _ | refine qr.cons zT ?_ | refine qr.app zS ?_ | exact qr.nil _ | exact qr.refl _ | refine qr.drop ?_ | refine qr.dropS ?_))) ?_
 generalize ((lb,.cells 134 15 (qD F0.n M tb wb g1 g2 rb db))::(HT++(HW++(H12++(H2++(HR++(HD++HM.flatten)))))))=HF1 at hF1 ⊢
 clear hT hO hW h1 o1 h2 o2 hR hU hD hM h12 o12
 refine zY rfl qZ rfl rfl (za 3 rfl ?_)
 refine qV (X:=(Nat × Lf × qe)) [(0,_),(3,_),(16,_),(17,_)] (fun (z:(Nat × Lf × qe))=>[(18,zi (z.1:Int))]) (fun _=>_) (fun (z:(Nat × Lf × qe))=>XO1++(z.2.2++H)) (fun (z:(Nat × Lf × qe))=>z.1≤ids1.length∧zr lb T z.2.1 z.2.2∧z.2.1=Qc F1 (ids1.take z.1)) (fun (z:(Nat × Lf × qe))=>ids1.length-z.1) (0,F1,HF1) ⟨Nat.zero_le _,hF1,rfl⟩ (qc rfl (qc rfl (qc rfl (qc rfl (qi _))))) (qc rfl (qi _)) rfl (.refl _) ?_
 rintro ⟨i,F,HF⟩ ⟨hi,hF,eF⟩
 dsimp only at hi hF eF ⊢
 simp only [List.cons_append,List.nil_append]
 refine za 4 rfl ?_
 refine qq (p:=(i:Int)<(ids1.length:Int)) rfl (by simp) (fun q0=>?_) (fun q0=>?_)
 ·skip
  refine za 4 rfl ?_
  obtain ⟨z,hz⟩:∃ z,ids1[i]?=some z:=⟨_,List.getElem?_eq_getElem zO⟩
  have hzr:=hid1 z (by rw [← eI1]; exact List.mem_of_getElem? hz)
  obtain ⟨zn,rfl⟩:∃ zn:Nat,z=(zn:Int):=⟨z.toNat,by omega⟩
  obtain ⟨qz,pz,rfl,hcz⟩:=(hrow1 (H:=XO1++(HF++H)) (fun p hp=>List.mem_append_left _ hp)).at (i:=i) (v:=.int .i64 (zn:Int)) (by rw [List.getElem?_map,hz]; rfl)
  refine qN (j:=i) rfl rfl qZ ty3 rfl zO rfl rfl ?_
  refine qf (v:=zi (zn:Int)) rfl ty3 rfl (by rw [Nat.mul_one]; exact hcz) rfl ?_
  refine za 2 rfl ?_
  cases hF with
  | @mk tb wb g1 g2 rb db M HT HW H1 H2 HR HD HM hT hO hW h1 o1 h2 o2 hR hU hD hM =>
  refine qT (H':=XO1++((lb,.cells 134 15 (qD F.n M tb wb g1 g2 rb db))::(HT++(HW++(H1++(H2++(HR++(HD++(HM.flatten++H))))))))) (by simp only [List.cons_append,List.append_assoc,List.nil_append]; first | exact ZW | (repeat (first | with_reducible exact qr.refl _ | refine qr.cons zT ?_ | refine qr.app zS ?_ | exact qr.nil _ | exact qr.refl _ | refine qr.drop ?_ | refine qr.dropS ?_))) ?_
  refine zy [(lb,.cells 134 15 (qD F.n M tb wb g1 g2 rb db))] zk ?_
  refine zw [0,1,2] rfl rfl ?_
  refine qm 3 rfl zK zK zK rfl rfl (ql (v:=zp g2) rfl XC rfl (qh.own (b:=lb) zM (Qj (j:=3) hM.m4))) rfl ?_
  refine zw [4,5,6,7] rfl rfl ?_
  refine qm 8 rfl zK zK zK rfl rfl (ql (v:=zi ((F.n:Nat):Int)) rfl ty3 rfl (qh.own (b:=lb) zM rfl)) rfl ?_
  refine qm 9 rfl zK zK zK rfl rfl (QQ rfl rfl (JF (by have:=o2.n; omega) (m:=((zn%F.n:Nat):Int)) (qfo zn F.n))) rfl ?_
  refine zw [10] rfl rfl ?_
  refine qJ 11 zH zK rfl rfl ?_
  refine qv (l:=[zi (zn:Int)]) qZ ty3 (.cons rfl rfl rfl rfl rfl .nil) rfl rfl rfl rfl rfl rfl rfl (fun b33=>?_)
  refine qs (WC_goal ?_)
  refine qJ 12 zH zK rfl rfl ?_
  refine qn (zc3 rfl rfl rfl) Tryz.call70 rfl ((h2.call o2 (z:=zn) (fun HZ=>Holds.own (b:=b33) (List.mem_append_right _ List.mem_cons_self)) (cap:=1) (H:=(b33,.cells 3 1 [zi (zn:Int)])::(XO1++((lb,.cells 134 15 (qD F.n M tb wb g1 g2 rb db))::(HT++(HW++(H1++(HR++(HD++(HM.flatten++H)))))))))).hsub zH) ?_
  rintro v H' ⟨H22,h22,⟨m3,rfl⟩,rfl⟩
  refine qs (WC_goal (WC_done zH zK (za 2 rfl ?_)))
  have hF2:zr lb T { F with cl:=zV F.cl F.n zn } ((lb,.cells 134 15 (qD F.n M tb wb g1 g2 rb db))::(HT++(HW++(H1++(H22++(HR++(HD++HM.flatten))))))):=.mk (F:={ F with cl:=zV F.cl F.n zn }) hT hO hW h1 o1 h22 (o2.call _) hR hU hD hM
  refine qT (H':=XO1++(((lb,.cells 134 15 (qD F.n M tb wb g1 g2 rb db))::(HT++(HW++(H1++(H22++(HR++(HD++HM.flatten)))))))++H)) (by simp only [List.cons_append,List.append_assoc,List.nil_append]; first | exact ZW | (repeat (first | with_reducible exact qr.refl _ | refine qr.cons zT ?_ | refine qr.app zS ?_ | exact qr.nil _ | exact qr.refl _ | refine qr.drop ?_ | refine qr.dropS ?_))) ?_
  generalize ((lb,.cells 134 15 (qD F.n M tb wb g1 g2 rb db))::(HT++(HW++(H1++(H22++(HR++(HD++HM.flatten)))))))=HF2 at hF2 ⊢
  refine qF rfl rfl (qM (m:=((i+1:Nat):Int)) ((qW zO).trans zO)) rfl ?_
  refine za 2 rfl ?_
  refine qI (i+1,{ F with cl:=zV F.cl F.n zn },HF2) ⟨by show i+1≤ids1.length; omega,hF2,by show _=Qc F1 (ids1.take (i+1)); rw [qf7 hz,← eF,Int.toNat_natCast]⟩ (by show ids1.length-(i+1)<ids1.length-i; omega) (qc rfl (qc rfl (qc rfl (qc rfl (qc rfl (qi _)))))) rfl zH
 ·skip
  refine za 3 rfl ?_
  have ei1:i=ids1.length:=by omega
  subst ei1
  rw [List.take_length] at eF
  have hcb:F.cl.began<1000000000:=by rw [eF,(qbu F1 ids1).2.2,eF1]; exact hb2
  cases hF with
  | @mk tb wb g1 g2 rb db M HT HW H1 H2 HR HD HM hT hO hW h1 o1 h2 o2 hR hU hD hM =>
  refine qT (H':=XO1++((lb,.cells 134 15 (qD F.n M tb wb g1 g2 rb db))::(HT++(HW++(H1++(H2++(HR++(HD++(HM.flatten++H))))))))) (by simp only [List.cons_append,List.append_assoc,List.nil_append]; first | exact ZW | (repeat (first | with_reducible exact qr.refl _ | refine qr.cons zT ?_ | refine qr.app zS ?_ | exact qr.nil _ | exact qr.refl _ | refine qr.drop ?_ | refine qr.dropS ?_))) ?_
  refine za 3 rfl ?_
  refine qf (v:=zp g2) rfl XC rfl (qh.own (b:=lb) zM (Qj (j:=3) hM.m4)) rfl ?_
  have htl2:=Kf h2
  obtain ⟨ids2,eI2⟩:∃ ids2,ids2=(zj F.cl).2:=⟨_,rfl⟩
  have hil2:ids2.length≤64*F.n:=by rw [eI2]; exact htl2
  have o22:z9 F.n (zj F.cl).1:=o2.look.begin (by rw [KZ]; exact hcb)
  have hn642:=o2.n
  have hms4:=hM.s4
  refine qn (zc1 rfl) Tryz.call69 rfl ((h2.poll o2 hcb hT0 (H:=XO1++((lb,.cells 134 15 (qD F.n M tb wb g1 g2 rb db))::(HT++(HW++(H1++(HR++(HD++(HM.flatten++H))))))))).hsub zH) ?_
  rintro v H' ⟨H22,XO2,h22,hO2,rfl⟩
  rw [← eI2] at hO2
  obtain ⟨ad2,cap2,rfl,hc3,hc4⟩:=hO2.shape
  have hrow2:∀ {H:qe},(∀ p∈XO2,p∈H)→Holds w0 H ad2 (ids2.map (Value.int .i64)):=fun hs=>zz.toHolds hO2 hs
  obtain ⟨F3,eF3⟩:∃ F3,F3=({ F with cl:=(zj F.cl).1 }:Lf):=⟨_,rfl⟩
  have hF3:zr lb T F3 ((lb,.cells 134 15 (qD F.n M tb wb g1 g2 rb db))::(HT++(HW++(H1++(H22++(HR++(HD++HM.flatten))))))):=by rw [eF3]; exact .mk (F:={ F with cl:=(zj F.cl).1 }) hT hO hW h1 o1 h22 o22 hR hU hD hM
  refine qT (H':=XO2++(((lb,.cells 134 15 (qD F.n M tb wb g1 g2 rb db))::(HT++(HW++(H1++(H22++(HR++(HD++HM.flatten)))))))++H)) (by simp only [List.cons_append,List.append_assoc,List.nil_append]; first | exact ZW | (repeat (first | with_reducible exact qr.refl _ | refine qr.cons zT ?_ | refine qr.app zS ?_ | exact qr.nil _ | exact qr.refl _ | refine qr.drop ?_ | refine qr.dropS ?_))) ?_
  generalize ((lb,.cells 134 15 (qD F.n M tb wb g1 g2 rb db))::(HT++(HW++(H1++(H22++(HR++(HD++HM.flatten)))))))=HF3 at hF3 ⊢
  clear hT hO hW h1 o1 h2 o2 hR hU hD hM h22 o22 hrow1 hO1
  have hm3:F3.ms=F.ms:=by rw [eF3]
  have hzz:∀ z∈ids2,0≤z∧z<64:=fun z hz=>(hid2 z (by rw [eI2,eF,eF1] at hz; rw [eI1] at hz; exact hz)).1
  have hzm:∀ z∈ids2,(JK F3 (z/16)).isSome=true:=fun z hz=>by
   have:=(hid2 z (by rw [eI2,eF,eF1] at hz; rw [eI1] at hz; exact hz)).2
   unfold JK at this ⊢
   rw [hm3,eF,(qbu F1 ids1).2.1,eF1]; exact this
  refine zY rfl qZ rfl rfl (za 3 rfl ?_)
  refine qV (X:=(Nat × Lf × qe × Value × qe × List Gn)) [(0,_),(40,_),(41,_)] (fun (z:(Nat × Lf × qe × Value × qe × List Gn))=>[(42,zi (z.1:Int)),(3,z.2.2.2.1)]) (fun _=>_) (fun (z:(Nat × Lf × qe × Value × qe × List Gn))=>XO2++(z.2.2.2.2.1++(z.2.2.1++H))) (fun (z:(Nat × Lf × qe × Value × qe × List Gn))=>z.1≤ids2.length∧zr lb T z.2.1 z.2.2.1∧(z.2.1,z.2.2.2.2.2)=Yl F3 (ids2.take z.1)∧zz 50 4 z.2.2.2.1 z.2.2.2.2.2.length (z.2.2.2.2.2.flatMap gnC) z.2.2.2.2.1) (fun (z:(Nat × Lf × qe × Value × qe × List Gn))=>ids2.length-z.1) (0,F3,HF3,.slice none 0 0,[],[]) ⟨Nat.zero_le _,hF3,rfl,.nil⟩ (qc rfl (qc rfl (qc rfl (qi _)))) (qc rfl (qc rfl (qi _))) rfl (show qr _ (XO2++([]++(HF3++H))) from .refl _) ?_
  rintro ⟨j,Fj,HFj,xv,XB,gs⟩ ⟨hj,hFj,eFj,hOj⟩
  dsimp only at hj hFj eFj hOj ⊢
  simp only [List.cons_append,List.nil_append]
  refine za 4 rfl ?_
  refine qq (p:=(j:Int)<(ids2.length:Int)) rfl (by simp) (fun q1=>?_) (fun q1=>?_)
  ·skip
   refine za 4 rfl ?_
   obtain ⟨z,hz⟩:∃ z,ids2[j]?=some z:=⟨_,List.getElem?_eq_getElem zO⟩
   have hzr:=hzz z (List.mem_of_getElem? hz)
   have hzs:=hzm z (List.mem_of_getElem? hz)
   obtain ⟨zn,rfl⟩:∃ zn:Nat,z=(zn:Int):=⟨z.toNat,by omega⟩
   obtain ⟨f1,f2,f3⟩:=K3 (F:=F3) (l:=ids2) (by rw [hm3]; exact hms4) hzz (((zn/16:Nat):Int)) j
   rw [← eFj] at f1 f2 f3
   have hgl:gs.length≤j:=f3
   rw [show ((zn:Nat):Int)/16=((zn/16:Nat):Int) by omega] at hzs
   obtain ⟨⟨x4,b4⟩,hm4⟩:=Option.isSome_iff_exists.1 (f1.trans hzs)
   obtain ⟨qz,pz,rfl,hcz⟩:=(hrow2 (H:=XO2++(XB++(HFj++H))) (fun p hp=>List.mem_append_left _ hp)).at (i:=j) (v:=.int .i64 (zn:Int)) (by rw [List.getElem?_map,hz]; rfl)
   refine qN (j:=j) rfl rfl qZ ty3 rfl zO rfl rfl ?_
   refine qf (v:=zi (zn:Int)) rfl ty3 rfl (by rw [Nat.mul_one]; exact hcz) rfl ?_
   refine za 6 rfl ?_
   have hfl:=qdx Fj zn
   refine qn (zc2 rfl rfl) Tryz.call71 rfl ((hFj.free_ (z:=zn) zO hm4 (H:=XO2++(XB++H))).hsub zH) ?_
   rintro v H' ⟨HF4,XG,hF4,hG,rfl⟩
   obtain ⟨ad5,cap5,rfl,hh5⟩:∃ ad5 cap5,v=.slice ad5 (z8 Fj zn).2.length cap5∧Holds w0 (XG++(HF4++(XO2++(XB++H)))) ad5 ((z8 Fj zn).2.flatMap gnC):=by
    obtain ⟨ad5,cap5,e,h3,h4,h5⟩:=Holds.of_own (w0:=w0) (H:=XG++(HF4++(XO2++(XB++H)))) hG (fun p hp=>List.mem_append_left _ hp)
    exact ⟨ad5,cap5,e,h5⟩
   refine QF (news:=(z8 Fj zn).2.flatMap gnC) (m:=(z8 Fj zn).2.length) (HB:=XB) (H0:=XG++(HF4++(XO2++H))) rfl rfl Ka Y4 rfl (by decide) hOj (zg qe2 _) hh5 (by rw [List.all_flatMap,List.all_eq_true]; exact fun t _=>rfl) (by simp only [maxLen]; omega) (by omega) zH rfl (fun xv' XB' hO'=>?_)
   refine za 4 rfl ?_
   refine qF rfl rfl (qM (m:=((j+1:Nat):Int)) ((qW zO).trans zO)) rfl ?_
   refine za 2 rfl ?_
   refine qI (j+1,(z8 Fj zn).1,HF4,xv',XB',gs++(z8 Fj zn).2) ⟨by show j+1≤ids2.length; omega,hF4,by show _=Yl F3 (ids2.take (j+1)); rw [qdv hz,← eFj,Int.toNat_natCast],by show zz 50 4 xv' (gs++(z8 Fj zn).2).length ((gs++(z8 Fj zn).2).flatMap gnC) XB'; rw [List.length_append,List.flatMap_append]; exact hO'⟩ (by show ids2.length-(j+1)<ids2.length-j; omega) (qc rfl (qc rfl (qc rfl (qc rfl (qc rfl (qi _)))))) rfl zH
  ·skip
   refine za 3 rfl ?_
   have ej:j=ids2.length:=by omega
   obtain ⟨f1,f2,f3⟩:=K3 (F:=F3) (l:=ids2) (by rw [hm3]; exact hms4) hzz 0 j
   rw [← eFj] at f1 f2 f3
   rw [ej,List.take_length] at eFj
   have hgl:gs.length≤4096:=by
    have h1:gs.length≤j:=f3
    omega
   cases hFj with
   | @mk tb wb g1 g2 rb db M HT HW H1 H2 HR HD HM hT hO hW h1 o1 h2 o2 hR hU hD hM =>
   refine qT (H':=XB++((lb,.cells 134 15 (qD Fj.n M tb wb g1 g2 rb db))::(HT++(HW++(H1++(H2++(HR++(HD++(HM.flatten++H))))))))) (by simp only [List.cons_append,List.append_assoc,List.nil_append]; first | exact ZW | (repeat (first | with_reducible exact qr.refl _ | refine qr.cons zT ?_ | refine qr.app zS ?_ | exact qr.nil _ | exact qr.refl _ | refine qr.drop ?_ | refine qr.dropS ?_))) ?_
   refine za 3 rfl ?_
   refine qK (vs:=M.flatMap mcC) rfl qaS rfl (b:=lb) zM (by rw [Nat.ble_eq,qcq,hM.m4]; decide) (by show ((qD Fj.n M tb wb g1 g2 rb db).drop 1).take 8=_; exact qmK hM.m4) rfl ?_
   refine za 3 rfl ?_
   refine qV (X:=(Nat × List (Option Nat × Bool) × List (Option (Xm × Bool)) × List qe × Value × qe × List Gn)) [(0,_),(55,_)] (fun (z:(Nat × List (Option Nat × Bool) × List (Option (Xm × Bool)) × List qe × Value × qe × List Gn))=>[(56,zi (z.1:Int)),(3,z.2.2.2.2.1)]) (fun _=>_) (fun (z:(Nat × List (Option Nat × Bool) × List (Option (Xm × Bool)) × List qe × Value × qe × List Gn))=>z.2.2.2.2.2.1++((lb,.cells 134 15 (qD Fj.n z.2.1 tb wb g1 g2 rb db))::(HT++(HW++(H1++(H2++(HR++(HD++(z.2.2.2.1.flatten++H))))))))) (fun (z:(Nat × List (Option Nat × Bool) × List (Option (Xm × Bool)) × List qe × Value × qe × List Gn))=>z.1≤4∧YY T z.2.1 z.2.2.1 z.2.2.2.1∧(∀ q:Nat,z.1≤q→z.2.1[q]?=M[q]?∧z.2.2.2.1[q]?=HM[q]?)∧(z.2.2.1,z.2.2.2.2.2.2)=Kx Fj.ms gs z.1∧zz 50 4 z.2.2.2.2.1 z.2.2.2.2.2.2.length (z.2.2.2.2.2.2.flatMap gnC) z.2.2.2.2.2.1∧z.2.2.2.2.2.2.length≤4096+z.1) (fun (z:(Nat × List (Option Nat × Bool) × List (Option (Xm × Bool)) × List qe × Value × qe × List Gn))=>4-z.1) (0,M,Fj.ms,HM,xv,XB,gs) ⟨Nat.zero_le _,hM,fun q _=>⟨rfl,rfl⟩,rfl,hOj,hgl⟩ (qc rfl (qc rfl (qi _))) (qc rfl (qc rfl (qi _))) rfl (.refl _) ?_
   rintro ⟨k,M1,ms1,HM1,yv,YB,ys⟩ ⟨hk,hM1,hq1,eg,hOy,hyl⟩
   dsimp only at hk hM1 hq1 eg hOy hyl ⊢
   simp only [List.cons_append,List.nil_append]
   refine za 4 rfl ?_
   refine qq (p:=k<4) rfl (by rw [decide_eq_true_eq]; omega) (fun q2=>?_) (fun q2=>?_)
   ·skip
    refine za 4 rfl ?_
    obtain ⟨c,hc⟩:∃ c,M[k]?=some c:=⟨_,List.getElem?_eq_getElem (by rw [hM.m4]; omega)⟩
    obtain ⟨y,hy⟩:∃ y,Fj.ms[k]?=some y:=⟨_,List.getElem?_eq_getElem (by rw [hM.s4]; omega)⟩
    obtain ⟨X,hX0⟩:∃ X,HM[k]?=some X:=⟨_,List.getElem?_eq_getElem (by rw [hM.h4]; omega)⟩
    have hmp:=hM.at_ k c y X hc hy hX0
    have hX1:HM1[k]?=some X:=by rw [(hq1 k (Nat.le_refl _)).2]; exact hX0
    have hc1':M1[k]?=some c:=by rw [(hq1 k (Nat.le_refl _)).1]; exact hc
    refine qH rfl rfl ?_
    refine qgn (vs:=mcC c) (j:=k) rfl rfl qaS Yy rfl rfl zO ((ZN (o:=0) (m:=2) ZH hc zd).trans rfl) rfl ?_
    refine qA (l:=mcC (none,false)) Yy rfl rfl (fun b9=>?_)
    refine qjR rfl rfl ?_
    refine qp (l':=mcC c) rfl rfl Yy rfl rfl (b:=b9) zM (by exact Nat.le_refl 2) rfl zU ?_
    refine za 2 rfl ?_
    obtain ⟨ca,cb⟩:=c
    rcases (show (ca=none∧cb=false∧y=none)∨(∃ mb x,ca=some mb∧cb=false∧y=some (x,false)∧XmH mb T x X)∨(∃ mb x,ca=some mb∧cb=true∧y=some (x,true)∧XmH mb T x X) by
     cases hmp with
     | none=>exact .inl ⟨rfl,rfl,rfl⟩
     | @some mb x b X h =>
      cases cb with
      | false=>exact .inr (.inl ⟨mb,x,rfl,rfl,rfl,h⟩)
      | true=>exact .inr (.inr ⟨mb,x,rfl,rfl,rfl,h⟩)) with ⟨rfl,rfl,rfl⟩ | ⟨mb,x,rfl,rfl,rfl,hx⟩ | ⟨mb,x,rfl,rfl,rfl,hx⟩
    ·skip
     refine za 1 rfl ?_
     refine qf (v:=.bool false) rfl ty4 rfl (qh.own (b:=b9) zM rfl) rfl ?_
     refine za 11 rfl ?_
     refine qF rfl rfl (qM (m:=((k+1:Nat):Int)) ((qW zO).trans zO)) rfl ?_
     refine za 2 rfl ?_
     refine qI (k+1,M1,ms1,HM1,yv,YB,ys) ⟨by show k+1≤4; omega,hM1,fun q hq=>hq1 q (by have:k+1≤q:=hq; omega),by show _=Kw Fj.ms (Kx Fj.ms gs k) k; unfold Kw; rw [hy,← eg]; try (dsimp only; rw [if_neg (by exact_mod_cast q3)]),hOy,by show ys.length≤4096+(k+1); omega⟩ (by show 4-(k+1)<4-k; omega) (qc rfl (qc rfl (qc rfl (qc rfl (qi _))))) rfl zH
    ·skip
     refine za 1 rfl ?_
     refine qf (v:=.bool false) rfl ty4 rfl (qh.own (b:=b9) zM rfl) rfl ?_
     refine za 11 rfl ?_
     refine qF rfl rfl (qM (m:=((k+1:Nat):Int)) ((qW zO).trans zO)) rfl ?_
     refine za 2 rfl ?_
     refine qI (k+1,M1,ms1,HM1,yv,YB,ys) ⟨by show k+1≤4; omega,hM1,fun q hq=>hq1 q (by have:k+1≤q:=hq; omega),by show _=Kw Fj.ms (Kx Fj.ms gs k) k; unfold Kw; rw [hy,← eg]; try (dsimp only; rw [if_neg (by exact_mod_cast q3)]),hOy,by show ys.length≤4096+(k+1); omega⟩ (by show 4-(k+1)<4-k; omega) (qc rfl (qc rfl (qc rfl (qc rfl (qi _))))) rfl zH
    ·skip
     refine za 1 rfl ?_
     refine qf (v:=.bool true) rfl ty4 rfl (qh.own (b:=b9) zM rfl) rfl ?_
     refine za 4 rfl ?_
     refine qf (v:=zp mb) rfl Ya rfl (qh.own (b:=b9) zM rfl) rfl ?_
     refine Qk rfl rfl ?_
     refine qB (zc1 rfl) Tryz.call43 rfl (hx.held (fun p hp=>List.mem_cons_of_mem _ (List.mem_append_right _ (List.mem_cons_of_mem _ (List.mem_append_right _ (List.mem_append_right _ (List.mem_append_right _ (List.mem_append_right _ (List.mem_append_right _ (List.mem_append_right _ (List.mem_append_left _ (YN hX1 hp)))))))))))) ?_
     refine za 4 rfl ?_
     refine XA rfl (fun q3=>?_) (fun q3=>?_)
     ·simp only [cond_true,cond_false,Bool.and_eq_true,Bool.or_eq_true,Bool.and_eq_false_iff,Bool.or_eq_false_iff,decide_eq_true_eq,decide_eq_false_iff_not,Bool.not_eq_true',Bool.not_eq_false',ne_eq,Decidable.not_not] at q3
      refine za 3 rfl ?_
      refine zb (l:=mcC (none,false)) Yy ql6 .nil rfl rfl rfl ?_
      refine za 2 rfl ?_
      refine zh (j:=k) rfl rfl qaS Yy (by first | rfl | omega) (by first | decide | omega | simp) rfl rfl ?_
      refine qp (l':=qD Fj.n (M1.set k (none,false)) tb wb g1 g2 rb db) rfl rfl Yy rfl rfl (b:=lb) zM (by rw [qcq,hM1.m4]; omega) (qhu (c':=(none,false)) (by rw [hM1.m4]; omega)) zU ?_
      refine za 4 rfl ?_
      refine zb (l:=gnC ⟨(k:Int),0,0,true⟩) Y4 qfD (.cons rfl rfl rfl rfl rfl (.cons rfl rfl rfl rfl rfl .nil)) rfl rfl rfl ?_
      refine qv (l:=gnC ⟨(k:Int),0,0,true⟩) Ka Y4 (.cons rfl rfl rfl rfl rfl .nil) rfl rfl rfl rfl rfl rfl rfl (fun b77=>?_)
      refine qT (H':=(b77,.cells 50 4 (gnC ⟨(k:Int),0,0,true⟩))::(b9,.cells 129 2 (mcC (some mb,true)))::(YB++((lb,.cells 134 15 (qD Fj.n (M1.set k (none,false)) tb wb g1 g2 rb db))::(HT++(HW++(H1++(H2++(HR++(HD++((HM1.set k []).flatten++H)))))))))) (.cons (.here _) (.cons (.here _) (.app (.here _) (.cons (.here _) (.app (.here _) (.app (.here _) (.app (.here _) (.app (.here _) (.app (.here _) (.app (.here _) ((Qs hX1).trans (.dropS (.refl _))))))))))))) ?_
      refine QF (news:=gnC ⟨(k:Int),0,0,true⟩) (m:=1) (HB:=YB) (H0:=(b77,.cells 50 4 (gnC ⟨(k:Int),0,0,true⟩))::(b9,.cells 129 2 (mcC (some mb,true)))::((lb,.cells 134 15 (qD Fj.n (M1.set k (none,false)) tb wb g1 g2 rb db))::(HT++(HW++(H1++(H2++(HR++(HD++((HM1.set k []).flatten++H))))))))) rfl rfl Ka Y4 rfl (by decide) hOy rfl (Holds.own (b:=b77) zM) rfl (by simp only [maxLen]; omega) (by omega) zH rfl (fun yv' YB' hO'=>?_)
      refine za 4 rfl ?_
      refine qF rfl rfl (qM (m:=((k+1:Nat):Int)) ((qW zO).trans zO)) rfl ?_
      refine za 2 rfl ?_
      refine qI (k+1,M1.set k (none,false),ms1.set k none,HM1.set k [],yv',YB',ys++[⟨(k:Int),0,0,true⟩]) ⟨by show k+1≤4; omega,hM1.set .none,fun q hq=>⟨by rw [List.getElem?_set_ne (show k≠q by have:k+1≤q:=hq; omega)]; exact (hq1 q (by have:k+1≤q:=hq; omega)).1,by rw [List.getElem?_set_ne (show k≠q by have:k+1≤q:=hq; omega)]; exact (hq1 q (by have:k+1≤q:=hq; omega)).2⟩,by show _=Kw Fj.ms (Kx Fj.ms gs k) k; unfold Kw; rw [hy,← eg]; dsimp only; rw [if_pos (by exact_mod_cast q3)],by show zz 50 4 yv' (ys++[_]).length ((ys++[_]).flatMap gnC) YB'; rw [List.length_append,List.flatMap_append]; exact hO',by show (ys++[_]).length≤4096+(k+1); rw [List.length_append,List.length_singleton]; omega⟩ (by show 4-(k+1)<4-k; omega) (qc rfl (qc rfl (qc rfl (qc rfl (qi _))))) rfl zH
     ·simp only [cond_true,cond_false,Bool.and_eq_true,Bool.or_eq_true,Bool.and_eq_false_iff,Bool.or_eq_false_iff,decide_eq_true_eq,decide_eq_false_iff_not,Bool.not_eq_true',Bool.not_eq_false',ne_eq,Decidable.not_not] at q3
      refine za 3 rfl ?_
      refine qF rfl rfl (qM (m:=((k+1:Nat):Int)) ((qW zO).trans zO)) rfl ?_
      refine za 2 rfl ?_
      refine qI (k+1,M1,ms1,HM1,yv,YB,ys) ⟨by show k+1≤4; omega,hM1,fun q hq=>hq1 q (by have:k+1≤q:=hq; omega),by show _=Kw Fj.ms (Kx Fj.ms gs k) k; unfold Kw; rw [hy,← eg]; try (dsimp only; rw [if_neg (by exact_mod_cast q3)]),hOy,by show ys.length≤4096+(k+1); omega⟩ (by show 4-(k+1)<4-k; omega) (qc rfl (qc rfl (qc rfl (qc rfl (qi _))))) rfl zH
   ·skip
    refine za 5 rfl ?_
    refine qj (H2:=YB++((lb,.cells 134 15 (qD Fj.n M1 tb wb g1 g2 rb db))::(HT++(HW++(H1++(H2++(HR++(HD++(HM1.flatten++H))))))))) Tryz.results18 rfl (.nil _) zH ?_
    have ek:k=4:=by omega
    subst ek
    have eP:Jk F0=({ Fj with ms:=ms1 },ys):=by
     unfold Jk
     dsimp only
     rw [← eI1,← eF1,← eF,← eI2,← eF3,← eFj]
     dsimp only
     rw [← eg]
    rw [eP]
    exact ⟨_,YB,.mk (F:={ Fj with ms:=ms1 }) hT hO hW h1 o1 h2 o2 hR hU hD hM1,hOy,by simp only [List.cons_append,List.append_assoc,List.nil_append]⟩
end Go.Proofs.YtincjohoncljoaaGreatDoor
namespace Go.Proofs.YtincjohoncljoaaGreatDoor
open Go Go.Sl
variable {w0:World} {H:qe} {b1 db cl:Nat} {E:List Dye}
attribute [local irreducible] W
open Go.Proofs
theorem qej {lp:Nat} (hok:QH (E.map Dye.ent) cl) (J:List Int→qe→Prop)
  (hround:∀ ks z Hi (HZ:qe),ks.length<E.length→J ks Hi→Zp Tryz.prog w0 lp #[zi z] (HZ++Hi) (fun v H'=>∃ Hi',qr H' (HZ++Hi')∧v=.bool true∧J (ks++[z]) Hi')) (hJ:J [] H) :
  qk Tryz.prog w0 175 #[.func (.yield lp) #[] #[],zp b1] ((b1,.cells 132 1 [.map (some db)])::(db,.obj (qS (Value.int .i64) ((E).map Dye.ent) cl))::H) (fun _ H'=>∃ (Hi':qe) (ks:List Int),qr H' ((b1,.cells 132 1 [.map (some db)])::(db,.obj (qS (Value.int .i64) ((E).map Dye.ent) cl))::Hi')∧ks.Perm (E.map Dye.key)∧J ks Hi'):=by
 refine qd (l:=[.func (.yield lp) #[] #[],zp b1]) Tryz.func175 rfl Tryz.ntmps175 rfl rfl ?_
 refine zo ?_
 refine qf (v:=.map (some db)) rfl JC rfl (qh.own (b:=b1) zM rfl) rfl ?_
 refine qfg (kf:=(Value.int .i64)) (l:=E.map Dye.ent) (cl:=cl) rfl JC zM rfl (fun r=>?_)
 refine za 2 rfl ?_
 refine qV (X:=(Qn Int × qe)) [(0,_),(5,_)] (fun (x:(Qn Int × qe))=>[]) (fun _=>_) (fun (x:(Qn Int × qe))=>(r,.obj (Jl db cl (x.1.map (·.2.2)) cl))::(b1,.cells 132 1 [.map (some db)])::(db,.obj (qS (Value.int .i64) ((E).map Dye.ent) cl))::x.2) (fun (x:(Qn Int × qe))=>(x.1.map (·.2.2)).Nodup∧(∀ p∈x.1,p∈E.map Dye.ent)∧J (x.1.map (·.1)) x.2) (fun (x:(Qn Int × qe))=>E.length-x.1.length) ([],H) ⟨.nil,(fun p hp=>(by cases hp)),hJ⟩ (qc rfl (qc rfl (qi _))) (qi _) rfl (qr.refl _) ?_
 rintro ⟨vs,Hi⟩ ⟨hnd,hin,hJi⟩
 dsimp only at hnd hin hJi ⊢
 simp only [List.cons_append,List.nil_append]
 refine zo ?_
 refine qjQ (kf:=(Value.int .i64)) (l:=E.map Dye.ent) (cl:=cl) (b:=db) (r:=r) (since:=cl) (c0:=cl) (sl:=vs.map (·.2.2)) (HN:=fun p=>(r,.obj (Jl db cl (vs.map (·.2.2)++[p.2.2]) cl))::(b1,.cells 132 1 [.map (some db)])::(db,.obj (qS (Value.int .i64) ((E).map Dye.ent) cl))::Hi) rfl zM zM hok.lt (Nat.le_refl _) (fun p=>.head _) rfl (fun hall=>?_) (fun p hp hnp=>?_)
 ·skip
  refine za 5 rfl (Zf Tryz.results175 (.nil _) (.refl _) ?_)
  have hpm:=qaR hok hnd hin hall
  exact ⟨Hi,vs.map (·.1),.drop (.refl _),by have:=hpm.map (·.1); rwa [List.map_map] at this,hJi⟩
 ·skip
  refine za 7 rfl ?_
  refine qfi (kf:=(Value.int .i64)) (l:=E.map Dye.ent) (cl:=cl) (b:=db) (r:=r) (since:=cl) (sl:=vs.map (·.2.2)) (p:=p) rfl zM zM hp hok rfl ?_
  refine za 6 rfl ?_
  have hvl:=X8 hnd hin hp hnp
  rw [List.length_map] at hvl
  refine JP rfl (.cons rfl .nil) rfl (hround (vs.map (·.1)) p.1 Hi [(r,.obj (Jl db cl (vs.map (·.2.2)++[p.2.2]) cl)),(b1,.cells 132 1 [.map (some db)]),(db,.obj (qS (Value.int .i64) ((E).map Dye.ent) cl))] (by rw [List.length_map]; exact hvl) hJi) ?_
  rintro v H' ⟨Hi',hsub,rfl,hJ'⟩
  refine qT hsub ?_
  rw [show [(r,.obj (Jl db cl (vs.map (·.2.2)++[p.2.2]) cl)),(b1,.cells 132 1 [.map (some db)]),(db,.obj (qS (Value.int .i64) ((E).map Dye.ent) cl))]++Hi'=(r,.obj (Jl db cl (vs.map (·.2.2)++[p.2.2]) cl))::(b1,.cells 132 1 [.map (some db)])::(db,.obj (qS (Value.int .i64) ((E).map Dye.ent) cl))::Hi' from rfl]
  refine za 5 rfl ?_
  refine qI (vs++[p],Hi') ⟨by show ((vs++[p]).map (·.2.2)).Nodup; rw [List.map_append]; exact List.nodup_append.2 ⟨hnd,by simp,fun x hx y hy e=>hnp (by obtain rfl:y=p.2.2:=(by simpa using hy); exact e ▸ hx)⟩,fun q hq=>(List.mem_append.1 hq).elim (hin q) (fun h=>by obtain rfl:q=p:=(by simpa using h); exact hp),by show J ((vs++[p]).map (·.1)) Hi'; rw [List.map_append]; exact hJ'⟩ (by show E.length-(vs++[p]).length<E.length-vs.length; rw [List.length_append,List.length_singleton]; omega) (qc rfl (qc rfl (qi _))) rfl (by simp only [List.map_append,List.map_cons,List.map_nil]; exact .refl _)
theorem qjG (hok:QH (E.map Dye.ent) cl) (hEl:E.length≤1000) :qk Tryz.prog w0 261 #[.slice none 0 0,.func (.func 175) #[] #[zp b1]] ((b1,.cells 132 1 [.map (some db)])::(db,.obj (qS (Value.int .i64) ((E).map Dye.ent) cl))::H) (fun v H'=>∃ (ks:List Int) (XB:qe),ks.Perm (E.map Dye.key)∧zz 3 1 v ks.length (ks.map (Value.int .i64)) XB∧H'=XB++((b1,.cells 132 1 [.map (some db)])::(db,.obj (qS (Value.int .i64) ((E).map Dye.ent) cl))::H)):=by
 refine qd (l:=[.slice none 0 0,.func (.func 175) #[] #[zp b1]]) Tryz.func261 rfl Tryz.ntmps261 rfl rfl ?_
 refine zo ?_
 refine qR (l:=[.slice none 0 0]) rfl rfl rfl (fun b2=>?_)
 refine za 7 rfl (QE rfl Tryz.call175 ?_)
 intro lp D r hst hpd hps hasg hbody hA
 have hr:=QV hst hpd
 show qk _ _ _ #[_,_] _ _
 refine ((qej (b1:=b1) (H:=(lp,.obj (.loop r))::(D,.obj (.deferred (some [])))::(b2,.cells 63 1 [.slice none 0 0])::H) hok (fun ks Hi=>∃ xv XB,zz 3 1 xv ks.length (ks.map (Value.int .i64)) XB∧Hi=(lp,.obj (.loop r))::(D,.obj (.deferred (some [])))::(b2,.cells 63 1 [xv])::(XB++H)) ?_ ⟨_,[],.nil,rfl⟩).hsub zH).mono ?_
 ·intro ks z Hi HZ hkl hJ
  obtain ⟨xv,XB,hX,rfl⟩:=hJ
  refine QB hst hpd hA hps rfl hasg rfl rfl rfl zT ?_
  refine za 3 rfl (JS hst hpd zT hbody (za 2 rfl ?_))
  refine qf (v:=xv) rfl qZ rfl (qh.own (b:=b2) zM rfl) rfl ?_
  refine qH rfl rfl ?_
  refine qv (l:=[zi z]) qZ ty3 (.cons rfl rfl rfl rfl rfl .nil) rfl rfl rfl rfl rfl rfl rfl (fun b10=>?_)
  refine QF (news:=[zi z]) (m:=1) (HB:=XB) (H0:=(b10,.cells 3 1 [zi z])::(lp,.obj (.loop (Loop.at r .busy none)))::(HZ++((D,.obj (.deferred (some [])))::(b2,.cells 63 1 [xv])::H))) rfl rfl qZ ty3 rfl (by decide) hX rfl (Holds.own List.mem_cons_self) rfl (by simp only [maxLen]; omega) (by omega) zH rfl (fun v' HB' hO'=>?_)
  refine qy (l':=[v']) rfl rfl qZ (by obtain ⟨a0,c0',e0,_⟩:=hO'.shape; rw [e0]; rfl) rfl (b:=b2) zM rfl rfl zU ?_
  refine za 2 rfl (Zo zT ?_)
  rw [hr]
  exact ⟨(lp,.obj (.loop r))::(D,.obj (.deferred (some [])))::(b2,.cells 63 1 [v'])::(HB'++H),zH,rfl,v',HB',by rw [List.length_append,List.map_append]; exact hO',rfl⟩
 ·intro _ H' hp
  obtain ⟨Hi',ks,hs,hpm,xv,XB,hX,rfl⟩:=hp
  refine ⟨.ready,none,(b1,.cells 132 1 [.map (some db)])::(db,.obj (qS (Value.int .i64) ((E).map Dye.ent) cl))::(D,.obj (.deferred (some [])))::(b2,.cells 63 1 [xv])::(XB++H),by rw [hr]; exact hs.trans zH,by decide,?_⟩
  show W _ _ _ _ _ _ _ _ _
  refine za 2 rfl ?_
  refine qf (v:=xv) rfl qZ rfl (qh.own (b:=b2) zM rfl) rfl ?_
  refine za 2 rfl ?_
  refine qj (H2:=XB++((b1,.cells 132 1 [.map (some db)])::(db,.obj (qS (Value.int .i64) ((E).map Dye.ent) cl))::H)) Tryz.results261 rfl (.cons zT (.nil _)) zH ?_
  exact ⟨ks,XB,hpm,hX,rfl⟩
theorem qf6 (hok:QH (E.map Dye.ent) cl) (hEl:E.length≤1000) :qk Tryz.prog w0 173 #[.func (.func 175) #[] #[zp b1]] ((b1,.cells 132 1 [.map (some db)])::(db,.obj (qS (Value.int .i64) ((E).map Dye.ent) cl))::H) (fun v H'=>∃ (ks:List Int) (XB:qe),ks.Perm (E.map Dye.key)∧zz 3 1 v ks.length (ks.map (Value.int .i64)) XB∧H'=XB++((b1,.cells 132 1 [.map (some db)])::(db,.obj (qS (Value.int .i64) ((E).map Dye.ent) cl))::H)):=by
 refine qd (l:=[.func (.func 175) #[] #[zp b1]]) Tryz.func173 rfl Tryz.ntmps173 rfl rfl ?_
 refine za 5 rfl ?_
 refine qn (zc2 rfl rfl) Tryz.call261 rfl (qjG hok hEl (H:=H)) ?_
 rintro v H' ⟨ks,XB,hpm,hX,rfl⟩
 refine za 2 rfl ?_
 refine qj (H2:=XB++((b1,.cells 132 1 [.map (some db)])::(db,.obj (qS (Value.int .i64) ((E).map Dye.ent) cl))::H)) Tryz.results173 rfl (.nil _) zH ?_
 exact ⟨ks,XB,hpm,hX,rfl⟩
theorem qfs (hok:QH (E.map Dye.ent) cl) (hEl:E.length≤1000) (hEn:(E.map Dye.key).Nodup) :qk Tryz.prog w0 86 #[.func (.func 175) #[] #[zp b1]] ((b1,.cells 132 1 [.map (some db)])::(db,.obj (qS (Value.int .i64) ((E).map Dye.ent) cl))::H) (fun v H'=>∃ XB,zz 3 1 v (JD (E.map Dye.key)).length ((JD (E.map Dye.key)).map (Value.int .i64)) XB∧H'=XB++((b1,.cells 132 1 [.map (some db)])::(db,.obj (qS (Value.int .i64) ((E).map Dye.ent) cl))::H)):=by
 refine qd (l:=[.func (.func 175) #[] #[zp b1]]) Tryz.func86 rfl Tryz.ntmps86 rfl rfl ?_
 refine za 5 rfl ?_
 refine qn (zc1 rfl) Tryz.call173 rfl (qf6 hok hEl (H:=H)) ?_
 rintro v H' ⟨ks,XB,hpm,hX,rfl⟩
 have hkl:ks.length≤1000:=by rw [hpm.length_eq,List.length_map]; exact hEl
 rcases qmD hX with ⟨rfl,hn0,-,rfl⟩ | ⟨b,cap,rfl,rfl,hcap,hmax⟩
 ·skip
  refine za 4 rfl ?_
  refine zI (zc1 rfl) Tryz.call174 rfl (T:=fun _=>True) trivial (fun w0 H _ w hs=>(callsIn_wide.2 (Tryz.slices_Sort_int_none none 0 w)).mono (by rintro en w2 ⟨rfl,rfl⟩; exact ⟨_,_,rfl,⟨rfl,rfl⟩,hs⟩)) ?_
  refine za 5 rfl ?_
  refine qj (H2:=[]++((b1,.cells 132 1 [.map (some db)])::(db,.obj (qS (Value.int .i64) ((E).map Dye.ent) cl))::H)) Tryz.results86 rfl (.nil _) zH ?_
  obtain rfl:=List.eq_nil_of_length_eq_zero hn0
  have hE0:E.map Dye.key=[]:=List.Perm.nil_eq hpm |>.symm
  refine ⟨[],?_,rfl⟩
  rw [hE0,show JD ([]:List Int)=[] from List.mergeSort_nil]
  exact .nil
 ·skip
  refine za 4 rfl ?_
  refine qT (H':=(b,.cells 3 (cap*1) (ks.map (Value.int .i64)))::((b1,.cells 132 1 [.map (some db)])::(db,.obj (qS (Value.int .i64) ((E).map Dye.ent) cl))::H)) (.refl _) ?_
  refine qn (zc1 rfl) Tryz.call174 rfl (qkf zO) ?_
  rintro v H' ⟨rfl,rfl⟩
  refine za 5 rfl ?_
  refine qj (H2:=[(b,.cells 3 (cap*1) ((JD ks).map (Value.int .i64)))]++((b1,.cells 132 1 [.map (some db)])::(db,.obj (qS (Value.int .i64) ((E).map Dye.ent) cl))::H)) Tryz.results86 rfl (.nil _) zH ?_
  have hsi:JD ks=JD (E.map Dye.key):=qe9 ((JW _).trans (hpm.trans (JW _).symm)) (qbL (hpm.nodup_iff.2 hEn)) (qbL hEn)
  have hl2:ks.length=(JD ks).length:=(JW _).length_eq.symm
  refine ⟨_,?_,rfl⟩
  rw [← hsi,hl2]
  exact zz.own (by simp) (by omega) hmax
theorem qkH:qk Tryz.prog w0 87 #[.map (some db)] (H) (fun v H'=>∃ b1,v=.func (.func 175) #[] #[zp b1]∧H'=(b1,.cells 132 1 [.map (some db)])::H):=by
 refine qd (l:=[.map (some db)]) Tryz.func87 rfl Tryz.ntmps87 rfl rfl ?_
 refine zo ?_
 refine qR (l:=[.map (some db)]) rfl rfl rfl (fun b1=>?_)
 refine za 3 rfl (qL .nil (.cons rfl .nil) rfl (za 2 rfl (qj Tryz.results87 rfl (.nil _) (.refl _) ?_)))
 exact ⟨b1,rfl,rfl⟩
def dyK (dy:List (Int × Hd)):List Int:=JD (dy.map (·.1))
theorem qmZ (E:List Dye):JD (E.map Dye.key)=dyK (E.map Dye.p):=by unfold dyK; rw [List.map_map]; rfl
theorem zr.dying {HF:qe} {lb T:Nat} {F:Lf} (hF:zr lb T F HF) (hl:F.dy.length≤1000) (hnd:(F.dy.map (·.1)).Nodup) :qk Tryz.prog w0 28 #[zp lb] (HF++H) (fun v H'=>∃ XB,zz 3 1 v (dyK F.dy).length ((dyK F.dy).map (Value.int .i64)) XB∧H'=XB++(HF++H)):=by
 cases hF with
 | @mk tb wb g1 g2 rb db M HT HW H1 H2 HR HD HM hT hO hW h1 o1 h2 o2 hR hU hD hM =>
 cases hD with
 | @mk E cl hok hdy =>
 have e0:((lb,.cells 134 15 (qD F.n M tb wb g1 g2 rb db))::(HT++(HW++(H1++(H2++(HR++([(db,.obj (qS (Value.int .i64) ((E).map Dye.ent) cl))]++HM.flatten)))))))++H=(lb,.cells 134 15 (qD F.n M tb wb g1 g2 rb db))::(HT++(HW++(H1++(H2++(HR++((db,.obj (qS (Value.int .i64) ((E).map Dye.ent) cl))::(HM.flatten++H))))))):=by simp only [List.cons_append,List.append_assoc,List.nil_append]
 rw [e0]
 have hEl:E.length≤1000:=by have:=congrArg List.length hdy; rw [List.length_map] at this; omega
 have hEn:(E.map Dye.key).Nodup:=by rw [← hdy,List.map_map] at hnd; exact hnd
 refine qd (l:=[zp lb]) Tryz.func28 rfl Tryz.ntmps28 rfl rfl ?_
 refine za 6 rfl ?_
 refine W_x (qE rfl rfl Ke) (fun _ h=>by cases h) rfl ?_
 refine za 7 rfl ?_
 refine qf (v:=.map (some db)) rfl JC rfl (qh.own (b:=lb) zM (Qj (j:=5) hM.m4)) rfl ?_
 refine qn (zc1 rfl) Tryz.call87 rfl qkH ?_
 rintro v H' ⟨b1,rfl,rfl⟩
 refine qn (zc1 rfl) Tryz.call86 rfl ((qfs hok hEl hEn (b1:=b1) (H:=(lb,.cells 134 15 (qD F.n M tb wb g1 g2 rb db))::(HT++(HW++(H1++(H2++(HR++(HM.flatten++H)))))))).hsub zH) ?_
 rintro v H' ⟨XB,hX,rfl⟩
 refine za 2 rfl ?_
 refine qj (H2:=XB++((lb,.cells 134 15 (qD F.n M tb wb g1 g2 rb db))::(HT++(HW++(H1++(H2++(HR++((db,.obj (qS (Value.int .i64) ((E).map Dye.ent) cl))::(HM.flatten++H))))))))) Tryz.results28 rfl (.nil _) zH ?_
 rw [← e0,← hdy,← qmZ]
 exact ⟨XB,hX,rfl⟩
theorem qmT:Zd Tryz.prog 1 50 [.int .i64,.int .i64,.int .i64,.bool]:=(Zd.struct Y4 zk zk (.cons (ks:=[.int .i64]) zd rfl zk (Zd.leaf (k:=.int .i64) ty3) (.cons (ks:=[.int .i64]) zd rfl zk (Zd.leaf (k:=.int .i64) ty3) (.cons (ks:=[.int .i64]) zd rfl zk (Zd.leaf (k:=.int .i64) ty3) (.cons (ks:=[.bool]) zd rfl zk (Zd.leaf (k:=.bool) ty4) .nil)))))
theorem agg50:XF Tryz.prog 50=true:=by kernel_rfl
theorem gt50:Tryz.prog.eqGuardType Tryz.prog.depth 50=false:=by kernel_rfl
theorem qhH (v:Gn):Za [.int .i64,.int .i64,.int .i64,.bool] (gnC v):=⟨⟨_,rfl⟩,⟨_,rfl⟩,⟨_,rfl⟩,⟨_,rfl⟩,trivial⟩
theorem qkV (v w:Gn) (h:gnC v=gnC w):v=w:=by
 obtain ⟨a,b,c,d⟩:=v
 obtain ⟨a',b',c',d'⟩:=w
 simp only [gnC,List.cons.injEq,Value.int.injEq,Value.bool.injEq,true_and,and_true] at h
 obtain ⟨rfl,rfl,rfl,rfl⟩:=h
 rfl
def kF1 (Ws:List Wl):Lf:={ lf0 1 Ws with ms:=(lf0 1 Ws).ms.set 0 (some (Xm.new 1 2 1,false)) }
def kF2 (Ws:List Wl):Lf:=(Kn (kF1 Ws) 0 0 5 [50]).1
def kF3 (Ws:List Wl):Lf:=(YF (kF2 Ws) 0 5).1
def kP (Ws:List Wl):Nat→Lf
 | 0=>kF3 Ws
 | k+1=>(Jk (kP Ws k)).1
theorem ql9 (Ws:List Wl):(Kn (kF1 Ws) 0 0 5 [50]).2=(⟨0,1⟩,0):=by kernel_rfl
theorem k_num (Ws:List Wl):qcl (kF2 Ws) 0 ⟨0,1⟩=(0,0):=by kernel_rfl
theorem qmR (Ws:List Wl):(YF (kF2 Ws) 0 5).2=0:=by kernel_rfl
theorem k_dy (Ws:List Wl):(kF3 Ws).dy=[(0,⟨0,1⟩)]:=by kernel_rfl
theorem k_dyK (Ws:List Wl):dyK (kF3 Ws).dy=[0]:=by rw [k_dy]; exact List.mergeSort_singleton _
theorem k_t0 (Ws:List Wl):(zj (kP Ws 0).tr).2=[]:=by kernel_rfl
theorem k_c0 (Ws:List Wl):(zj (Qc { kP Ws 0 with tr:=(zj (kP Ws 0).tr).1 } (zj (kP Ws 0).tr).2).cl).2=[]:=by kernel_rfl
theorem k_p0 (Ws:List Wl):(Jk (kP Ws 0)).2=[]:=by kernel_rfl
theorem k_bt0 (Ws:List Wl):(kP Ws 0).tr.began=0:=by kernel_rfl
theorem k_bc0 (Ws:List Wl):(kP Ws 0).cl.began=0:=by kernel_rfl
theorem k_t1 (Ws:List Wl):(zj (kP Ws 1).tr).2=[0]:=by kernel_rfl
theorem k_c1 (Ws:List Wl):(zj (Qc { kP Ws 1 with tr:=(zj (kP Ws 1).tr).1 } (zj (kP Ws 1).tr).2).cl).2=[]:=by kernel_rfl
theorem k_p1 (Ws:List Wl):(Jk (kP Ws 1)).2=[]:=by kernel_rfl
theorem k_bt1 (Ws:List Wl):(kP Ws 1).tr.began=1:=by kernel_rfl
theorem k_bc1 (Ws:List Wl):(kP Ws 1).cl.began=0:=by kernel_rfl
theorem k_t2 (Ws:List Wl):(zj (kP Ws 2).tr).2=[]:=by kernel_rfl
theorem k_c2 (Ws:List Wl):(zj (Qc { kP Ws 2 with tr:=(zj (kP Ws 2).tr).1 } (zj (kP Ws 2).tr).2).cl).2=[0]:=by kernel_rfl
theorem k_p2 (Ws:List Wl):(Jk (kP Ws 2)).2=[⟨0,0,1,false⟩]:=by kernel_rfl
theorem k_bt2 (Ws:List Wl):(kP Ws 2).tr.began=1:=by kernel_rfl
theorem k_bc2 (Ws:List Wl):(kP Ws 2).cl.began=1:=by kernel_rfl
theorem k_m2 (Ws:List Wl):(JK (kP Ws 2) 0).isSome=true:=by kernel_rfl
theorem qhr  (hT:Tab w0):qk Tryz.prog w0 19 #[] (H) (fun v H'=>v=.bool true∧H'=H):=by
 refine qd (l:=[]) Tryz.func19 rfl Tryz.ntmps19 rfl rfl ?_
 refine za 4 rfl ?_
 refine qn (zc2 rfl rfl) Tryz.call38 rfl ((qeX (n:=1) (now:=0) zd zd).hsub (.refl _)) ?_
 rintro v H' ⟨lb,Ws,HF0,rfl,hF0,hWl,hfr,rfl⟩
 refine za 10 rfl ?_
 first | rw [decide_eq_true (by omega)] | rw [decide_eq_false (by omega)]
 refine za 5 rfl ?_
 refine qn (zc4 rfl rfl rfl rfl) Tryz.call25 rfl ((qdq hF0 (kind:=1) (entries:=2) (words:=1) zd zd zd zd hT (H:=H)).hsub (.refl _)) ?_
 rintro v H' ⟨HF1,hh,rfl⟩
 obtain ⟨hF1,rfl⟩:zr lb 8 (kF1 Ws) HF1∧v=.tuple #[.int .i64 0,.int .i64 0]:=hh
 refine za 8 rfl ?_
 refine qv (l:=[zu 50]) Zq zX (.cons rfl rfl rfl rfl rfl .nil) rfl rfl rfl rfl rfl rfl rfl (fun b25=>?_)
 refine qn (zc5 rfl rfl rfl rfl rfl) Tryz.call14 rfl ((hF1.put hT zd (m:=0) (how:=0) (k:=5) (ws:=[50]) zd (fun HZ=>Holds.own (b:=b25) (List.mem_append_right _ List.mem_cons_self)) (capw:=1) (H:=(b25,.cells 30 (1*1) [zu 50])::H)).hsub zH) ?_
 rintro v H' ⟨HF2,hF2,rfl,rfl⟩
 replace hF2:zr lb _ (kF2 Ws) HF2:=hF2
 rw [show (Kn (kF1 Ws) 0 0 5 [50]).2.1=⟨0,1⟩ from congrArg Prod.fst (ql9 Ws),show (Kn (kF1 Ws) 0 0 5 [50]).2.2=0 from congrArg Prod.snd (ql9 Ws)]
 refine za 3 rfl ?_
 refine qA (l:=hdC zHd) qO rfl rfl (fun b5=>?_)
 refine qp (l':=hdC ⟨0,1⟩) rfl rfl qO rfl rfl (b:=b5) zM (by exact Nat.le_refl 2) rfl zU ?_
 refine za 4 rfl ?_
 refine qK (vs:=hdC ⟨0,1⟩) rfl qO rfl (b:=b5) zM rfl rfl rfl ?_
 refine qB (zc3 rfl rfl rfl) Tryz.call16 rfl (hF2.number (fun p hp=>by first | exact List.mem_append_left _ hp | exact List.mem_cons_of_mem _ (List.mem_append_left _ hp)) (m:=0) (h:=⟨0,1⟩)) ?_
 rw [k_num]
 refine za 10 rfl ?_
 first | rw [decide_eq_true (by omega)] | rw [decide_eq_false (by omega)]
 refine za 5 rfl ?_
 first | rw [decide_eq_true (by omega)] | rw [decide_eq_false (by omega)]
 refine za 6 rfl ?_
 first | rw [decide_eq_true (by omega)] | rw [decide_eq_false (by omega)]
 refine za 3 rfl ?_
 refine qK (vs:=hdC ⟨0,1⟩) rfl qO rfl (b:=b5) zM rfl rfl rfl ?_
 refine Qk rfl rfl ?_
 refine zb (l:=hdC ⟨0,1⟩) qO qhh (.cons rfl rfl rfl rfl rfl (.cons rfl rfl rfl rfl rfl .nil)) rfl rfl rfl ?_
 refine Qk rfl rfl ?_
 refine W_x (qjL (f:=hdC) rfl rfl qcB qfa Kv qaF qkU zd) (fun _ h=>by cases h) rfl ?_
 first | rw [decide_eq_false (by decide)] | skip
 refine za 6 rfl ?_
 first | rw [decide_eq_true (by omega)] | rw [decide_eq_false (by omega)]
 refine za 6 rfl ?_
 first | rw [decide_eq_true (by omega)] | rw [decide_eq_false (by omega)]
 refine za 5 rfl ?_
 refine qn (zc3 rfl rfl rfl) Tryz.call17 rfl ((hF2.drop (m:=0) (k:=5) (H:=(b5,.cells 40 2 (hdC ⟨0,1⟩))::H)).hsub zH) ?_
 rintro v H' ⟨HF3,hF3,rfl,rfl⟩
 replace hF3:zr lb _ (kF3 Ws) HF3:=hF3
 rw [qmR]
 refine za 2 rfl ?_
 first | rw [decide_eq_true (by omega)] | rw [decide_eq_false (by omega)]
 refine za 5 rfl ?_
 refine qn (zc1 rfl) Tryz.call28 rfl ((hF3.dying (by rw [k_dy]; decide) (by rw [k_dy]; decide) (H:=(b5,.cells 40 2 (hdC ⟨0,1⟩))::H)).hsub zH) ?_
 rintro v H' ⟨XD,hOD,rfl⟩
 rw [k_dyK] at hOD
 obtain ⟨adk,capk,rfl,_,_,hrk⟩:=Holds.of_own (w0:=w0) (H:=XD++[]) hOD (fun p hp=>List.mem_append_left _ hp)
 refine Qk rfl rfl ?_
 refine qv (l:=[zi 0]) qZ ty3 (.cons rfl rfl rfl rfl rfl .nil) rfl rfl rfl rfl rfl rfl rfl (fun b66=>?_)
 refine Qk rfl rfl ?_
 refine qB (zc2 rfl rfl) Tryz.call46 rfl (qms (l:=[0]) (r:=[0]) (hrk.up zH) (Holds.own (b:=b66) zM) zd) ?_
 rw [decide_eq_true (rfl:([0]:List Int)=[0])]
 refine za 8 rfl ?_
 refine qn (zc1 rfl) Tryz.call18 rfl ((zr.poll (F0:=kP Ws 0) hF3 (by rw [k_bt0]; decide) (by rw [k_bc0]; decide) (by rw [k_t0]; intro z hz; cases hz) (by rw [k_c0]; intro z hz; cases hz) hT (H:=H)).hsub zH) ?_
 rintro v H' ⟨HP1,XP1,hP1,hO1,rfl⟩
 replace hP1:zr lb _ (kP Ws 1) HP1:=hP1
 rw [k_p0] at hO1
 obtain ⟨ad1,cap1,rfl,_,_,_⟩:=Holds.of_own (w0:=w0) (H:=XP1++[]) hO1 (fun p hp=>List.mem_append_left _ hp)
 refine qH rfl rfl ?_
 refine qn (zc1 rfl) Tryz.call18 rfl ((zr.poll (F0:=kP Ws 1) hP1 (by rw [k_bt1]; decide) (by rw [k_bc1]; decide) (by rw [k_t1]; intro z hz; obtain rfl:=List.mem_singleton.1 hz; decide) (by rw [k_c1]; intro z hz; cases hz) hT (H:=H)).hsub zH) ?_
 rintro v H' ⟨HP2,XP2,hP2,hO2,rfl⟩
 replace hP2:zr lb _ (kP Ws 2) HP2:=hP2
 rw [k_p1] at hO2
 obtain ⟨ad2,cap2,rfl,_,_,_⟩:=Holds.of_own (w0:=w0) (H:=XP2++[]) hO2 (fun p hp=>List.mem_append_left _ hp)
 refine qH rfl rfl ?_
 refine qn (zc1 rfl) Tryz.call18 rfl ((zr.poll (F0:=kP Ws 2) hP2 (by rw [k_bt2]; decide) (by rw [k_bc2]; decide) (by rw [k_t2]; intro z hz; cases hz) (by rw [k_c2]; intro z hz; obtain rfl:=List.mem_singleton.1 hz; exact ⟨by decide,k_m2 Ws⟩) hT (H:=H)).hsub zH) ?_
 rintro v H' ⟨HP3,XP3,hP3,hO3,rfl⟩
 replace hP3:zr lb _ (kP Ws 3) HP3:=hP3
 rw [k_p2] at hO3
 obtain ⟨bg,capg,rfl,rfl⟩:∃ bg capg,v=.slice (some ⟨bg,0,none⟩) 1 capg∧XP3=[(bg,.cells 50 (capg*4) (gnC ⟨0,0,1,false⟩))]:=by
  cases hO3 with
  | own=>exact ⟨_,_,rfl,rfl⟩
 refine za 6 rfl (zY rfl Ka rfl rfl (za 1 rfl ?_))
 rw [decide_eq_true (by decide)]
 refine za 4 rfl (zY rfl Ka rfl rfl (za 2 rfl ?_))
 rw [decide_eq_true (by decide)]
 refine za 5 rfl (zY rfl Ka rfl rfl (za 2 rfl ?_))
 first | rw [decide_eq_true (by omega)] | rw [decide_eq_false (by omega)]
 refine za 5 rfl ?_
 refine qN (j:=0) rfl rfl Ka Y4 rfl zd rfl rfl ?_
 refine Qk rfl rfl ?_
 refine qK (vs:=gnC ⟨0,0,1,false⟩) rfl Y4 rfl (b:=bg) zM rfl rfl rfl ?_
 refine Qk rfl rfl ?_
 refine zb (l:=gnC ⟨0,0,1,false⟩) Y4 qfD (.cons rfl rfl rfl rfl rfl (.cons rfl rfl rfl rfl rfl (.cons rfl rfl rfl rfl rfl .nil))) rfl rfl rfl ?_
 refine Qk rfl rfl ?_
 refine W_x (qmd (f:=gnC) rfl rfl qmT agg50 qhH qkV gt50 zd) (fun _ h=>by cases h) rfl ?_
 refine za 3 rfl ?_
 refine qj (H2:=H) Tryz.results19 rfl (.nil _) zH ?_
 exact ⟨rfl,rfl⟩
theorem qdo:Zu Tryz.prog Tab 19 [] (.bool true):=fun w0 H hT=>qhr hT
end Go.Proofs.YtincjohoncljoaaGreatDoor
namespace Go.Proofs.YtincjohoncljoaaGreatDoor
open Go Go.Sl Go.ChangeShapes Go.WideShapes Go.ChangeAt Go.RowKit
set_option maxRecDepth 100000
theorem own:ownKnob Tryz.prog.godebug=none:=by kernel_rfl
theorem kids:Kids Tryz.prog (·<Tryz.prog.types.size):=kids_rows zk zk
theorem full:∀ t e,t<Tryz.prog.types.size→Tryz.prog.underlying t=some (.slice e)→0<Tryz.prog.cellsOf e:=slices_full_of Tryz.prog zk
theorem u4:Tryz.prog.underlying 4=some .bool:=by kernel_rfl
theorem u3:Tryz.prog.underlying 3=some (.int .i64):=by kernel_rfl
theorem u590:Tryz.prog.underlying 590=some (.array 64 5):=by kernel_rfl
theorem u5:Tryz.prog.underlying 5=some (.int .u8):=by kernel_rfl
theorem gDz:Tryz.prog.globalNamed "math/bits.deBruijn64tab"=some 0:=by kernel_rfl
theorem tDz:(Tryz.prog.globals[0]?).map (·.type)=some 590:=by kernel_rfl
abbrev qhz:List (String × DataW Unit):=[("math/bits.deBruijn64tab",Rows.laid_math_bits_deBruijn64tab)]
theorem qgS {W:World} (h:laidMetH Tryz.prog qhz W):Tab W:=fun j hj=>by
 have h1:Lib.TabIs Tryz.prog W "math/bits.deBruijn64tab" .u8 (Lib.deBruijn64tab.map fun z:Nat=>(z:Int)):=Lib.tabIs_of_head (rest:=[]) gDz tDz u590 u5 zk zk (show laidMet Tryz.prog qhz W from h)
 have h2:=h1.cell gDz j (by rw [List.length_map]; exact hj)
 rw [h2]
 rw [List.getD_eq_getElem?_getD,List.getD_eq_getElem?_getD,List.getElem?_map]
 cases Lib.deBruijn64tab[j]? <;> rfl
theorem qct {P:Program} {f:FuncId} {fn:Func} {s:ChangeSpec} {c:OpenClaim}
 (h1:c.wf (OpenSpec.ofChange s)=true) (h2:laidOutB P=true) (h3:mapsRowed P=true) (h4:fn.params.all (P.readableRec ·)=true) (h5:namedTie P c.named s.vars=true) (h6:(c.stops == [])=true) (h7:(P.stops == [])=true) (h8:(c.knobs == [])=true) (h9:(P.stopKnobs == [])=true)
 (h10:(c.inPlace == P.inPlace f)=true) (h11:(c.unfollowed == P.unfollowed f)=true) (h12:(c.recurses == P.recurses f)=true) (h13:(c.named == P.varsNamed f)=true)
 (h14:(c.maps == (fn.params.toList++s.plain.varTypes P).any (P.mapsRec ·))=true) (h15:(c.ifaces == (fn.params.toList++s.plain.varTypes P).any (P.ifacesRec ·))=true) (h16:(c.mapsOut == P.mapsAmong fn.resultTypes.toList)=true)
 (h17:(c.loops == (fn.params.toList++s.plain.varTypes P).any (P.loopsFrom ·))=true) (h18:(c.wideKeys == (fn.params.toList++s.plain.varTypes P++fn.resultTypes.toList).any (P.wideKeysFrom ·))=true)
 (h19:s.vars.all (P.varReadable ·)=true) (h20:fn.resultTypes.all (fun t=>P.readableRec t && decide (t<P.types.size))=true) (h21:(c.ifacesOut == fn.resultTypes.toList.any (P.ifacesRec ·))=true) (h22:(c.loopsOut == fn.resultTypes.toList.any (P.loopsFrom ·))=true) (h23:(c.plainKeys == P.plainKeys)=true) (h24:c.shortTexts.isNone=true) (h25:P.stopsHeard=true) (h26:P.mayEnter=true) (h27:(c.lifted == P.liftsFinal)=true) (h28:(P.make == some c.make)=true)
 (h29:(c.kinds == (if c.domain.isEmpty then [] else fn.params.toList.map fun t=>match P.underlying t with | some (.int k)=>some k | _=>none))=true) (h30:(c.pinned == c.pinnedBy)=true)
 (h31:(c.veiled == (fn.params.toList++s.plain.varTypes P++fn.resultTypes.toList).any (P.veiledRec ·))=true) (h32:c.veiledFits P fn.params.toList (fn.params.toList++s.plain.varTypes P++fn.resultTypes.toList)=true):joinedFacts P f fn s c=true:=by
 unfold joinedFacts
 simp only [Bool.and_eq_true]
 and_intros <;> assumption
theorem qeA {α:Type} {l:List α} {p:α→Bool} {m k:Nat} (hm:0<m) (hl:l.length≤m*k) (h:∀ j,j<k→((l.drop (m*j)).take m).any p=false):l.any p=false:=by
 rw [List.any_eq_false]
 intro x hx
 obtain ⟨i,hi,rfl⟩:=List.getElem_of_mem hx
 have hj:i/m<k:=Nat.div_lt_of_lt_mul zO
 refine List.any_eq_false.1 (h _ hj) _ (List.mem_of_getElem? (i:=i%m) ?_)
 rw [List.getElem?_take,if_pos (Nat.mod_lt _ hm),List.getElem?_drop,Nat.div_add_mod,List.getElem?_eq_getElem hi]
theorem qfT {P:Program} {c:OpenClaim} (h:P.funcs.toList.any Func.goes=false) (hs:c.start=.entering):false=c.goesBy P:=by
 rw [List.any_eq_false] at h
 have hg:∀ f,P.goes f=false:=fun f=>by
  unfold Program.goes
  have h1:((P.closure f).any fun g=>(P.funcs[g]?).any Func.goes)=false:=by
   rw [List.any_eq_false]
   intro g _ hh
   cases e:P.funcs[g]? with
   | none=>rw [e] at hh; cases hh
   | some fn =>
    rw [e] at hh
    exact h fn (by obtain ⟨hb,rfl⟩:=Array.getElem?_eq_some_iff.1 e; exact Array.getElem_mem_toList hb) hh
  have h2:P.funcs.any Func.goes=false:=by
   rw [← Array.any_toList,List.any_eq_false]; exact h
  rw [h1,h2,Bool.and_false]; rfl
 unfold OpenClaim.goesBy Program.goesAt Program.goesFrom
 rw [hs]
 cases P.funcNamed c.func with
 | none=>rfl
 | some f=>show false=(P.goes f || false); rw [hg]; rfl
theorem qmB:laidOutB Tryz.prog=true:=by kernel_rfl
theorem qkw:mapsRowed Tryz.prog=true:=by kernel_rfl
theorem qkv:(Tryz.prog.stops == [])=true:=by kernel_rfl
theorem qkx:(Tryz.prog.stopKnobs == [])=true:=by kernel_rfl
theorem qky:Tryz.prog.stopsHeard=true:=by kernel_rfl
theorem qkz:Tryz.prog.mayEnter=true:=by kernel_rfl
theorem qmA:Tryz.prog.funcs.toList.length≤60*9:=by decide +kernel
theorem p_g0:((Tryz.prog.funcs.toList.drop (60*0)).take 60).any Func.goes=false:=by kernel_rfl
theorem p_g1:((Tryz.prog.funcs.toList.drop (60*1)).take 60).any Func.goes=false:=by kernel_rfl
theorem p_g2:((Tryz.prog.funcs.toList.drop (60*2)).take 60).any Func.goes=false:=by kernel_rfl
theorem p_g3:((Tryz.prog.funcs.toList.drop (60*3)).take 60).any Func.goes=false:=by kernel_rfl
theorem p_g4:((Tryz.prog.funcs.toList.drop (60*4)).take 60).any Func.goes=false:=by kernel_rfl
theorem p_g5:((Tryz.prog.funcs.toList.drop (60*5)).take 60).any Func.goes=false:=by kernel_rfl
theorem p_g6:((Tryz.prog.funcs.toList.drop (60*6)).take 60).any Func.goes=false:=by kernel_rfl
theorem p_g7:((Tryz.prog.funcs.toList.drop (60*7)).take 60).any Func.goes=false:=by kernel_rfl
theorem p_g8:((Tryz.prog.funcs.toList.drop (60*8)).take 60).any Func.goes=false:=by kernel_rfl
theorem qmC:Tryz.prog.funcs.toList.any Func.goes=false:=qeA zd qmA fun j hj=>by
 match j,hj with
 | 0,_=>exact p_g0
 | 1,_=>exact p_g1
 | 2,_=>exact p_g2
 | 3,_=>exact p_g3
 | 4,_=>exact p_g4
 | 5,_=>exact p_g5
 | 6,_=>exact p_g6
 | 7,_=>exact p_g7
 | 8,_=>exact p_g8
 | n+9,h=>exact absurd h zO
noncomputable def laidWorld (os:Os):World :=
 let w0:=World.holding Tryz.prog os ⟨#[],#[],[]⟩
 let put (h:Array Obj) (g:Nat) (cs:Array Value):Array Obj:=h.modify g fun
  | .cells _ t frozen=>.cells cs t frozen
  | o=>o
 { w0 with heap:=put w0.heap 0 (Lib.deBruijn64tab.map fun z:Nat=>Value.int .u8 (z:Int)).toArray }
theorem qhy (os:Os) (args:Array Value):laidMet Tryz.prog qhz ((laidWorld os).forCall (fun _ _=>0) ⟨#[],args,[]⟩).memory :=
 laidMet_of_run' 8 zk zk
def usR (p:Int) (i:Nat):List (Int × Cnt):=if i=0 then [] else [(p,⟨if i<8 then (i:Int) else 8,8,decide (8<i)⟩)]
theorem qkG (z:Int) {N:Nat} (h:0<N):∃ n:Nat,n<N∧(IntKind.u64.wrap z).tmod N=(n:Int):=by
 have e:IntKind.u64.wrap z=z%18446744073709551616:=by simp [IntKind.wrap,IntKind.signed,IntKind.bits]
 have h0:0≤IntKind.u64.wrap z:=by rw [e]; omega
 refine ⟨(IntKind.u64.wrap z%N).toNat,?_,?_⟩
 ·have:=Int.emod_lt_of_pos (IntKind.u64.wrap z) (show (0:Int)<N by omega)
  have:=Int.emod_nonneg (IntKind.u64.wrap z) (show (N:Int)≠0 by omega)
  omega
 ·rw [Int.tmod_eq_emod_of_nonneg h0]
  have:=Int.emod_nonneg (IntKind.u64.wrap z) (show (N:Int)≠0 by omega)
  omega
def sF (n:Nat) (Ws:List Wl):Lf:={ lf0 n Ws with ms:=[some (Xm.new 1 8 1,false),none,none,none] }
theorem qkc {w0:World} {H:qe} (z:Int) (hT:Tab w0):qk Tryz.prog w0 9 #[zi z] (H) (fun v H'=>∃ n lb Ws HF,n<4∧v=.tuple #[zp lb,.bool true]∧zr lb 8 (sF (n+1) Ws) HF∧Ws.length=n+1∧(∀ w∈Ws,XY 0 w)∧H'=HF++H):=by
 obtain ⟨n,hn4,hn⟩:=qkG z (N:=4) zd
 refine qd (l:=[zi z]) Tryz.func9 rfl Tryz.ntmps9 rfl rfl ?_
 refine za 6 rfl ?_
 refine Yu (m:=IntKind.u64.wrap z) rfl ty3 zX rfl rfl ?_
 refine qF rfl rfl (JF zd (m:=(n:Int)) hn) rfl ?_
 refine Yu rfl zX ty3 (qW zO) rfl ?_
 refine qF rfl rfl (qM (m:=((n+1:Nat):Int)) (by rw [qW (by omega)]; omega)) rfl ?_
 refine qn (zc2 rfl rfl) Tryz.call38 rfl ((qeX (n:=n+1) (now:=0) zO zd).hsub (.refl _)) ?_
 rintro v H' ⟨lb,Ws,HF0,rfl,hF0,hWl,hfr,rfl⟩
 refine za 10 rfl ?_
 first | rw [decide_eq_true (by omega)] | rw [decide_eq_false (by omega)]
 refine za 5 rfl ?_
 refine qn (zc4 rfl rfl rfl rfl) Tryz.call25 rfl ((qdq hF0 (kind:=1) (entries:=8) (words:=1) zd zd zd zd hT (H:=H)).hsub (.refl _)) ?_
 rintro v H' ⟨HF1,hh,rfl⟩
 obtain ⟨hF1,rfl⟩:zr lb 8 (sF (n+1) Ws) HF1∧v=.tuple #[.int .i64 0,.int .i64 0]:=hh
 refine za 10 rfl ?_
 first | rw [decide_eq_true (by omega)] | rw [decide_eq_false (by omega)]
 refine za 5 rfl ?_
 first | rw [decide_eq_true (by omega)] | rw [decide_eq_false (by omega)]
 refine za 4 rfl ?_
 refine qP (H2:=HF1++H) Tryz.results9 rfl rfl (.nil _) zH ?_
 exact ⟨n,lb,Ws,HF1,hn4,rfl,hF1,hWl,hfr,rfl⟩
structure QsC (n:Nat) (p:Int) (x:Xm) (F:Lf):Prop where
 pr:0≤p∧p<16
 nn:F.n=n+1
 ms:F.ms=[some (x,false),none,none,none]
 ws:∀ w∈F.Ws,w.L=[]
 qt:F.Qt=[]
 rt:F.Rt=[]
 at0:∃ st,F.At[0]?=some ⟨true,true,p+1,st⟩
 qw:F.Qw=[]
 rw_:F.Rw=[]
 aw0:F.Aw[0]?=some ⟨true,p+1⟩
 on:F.on=List.replicate 32 0
 tr:F.tr=zV (gr0 (n+1)) (n+1) 0
 cl:F.cl=gr0 (n+1)
 us:F.us=usR p 2
 dy:F.dy=[(0,⟨0,1⟩)]
attribute [local irreducible] Qb zJ z3
theorem QsC.same {n:Nat} {p:Int} {x:Xm} {F:Lf}:({ F with Qt:=F.Qt,Rt:=F.Rt }:Lf)=F:=rfl
end Go.Proofs.YtincjohoncljoaaGreatDoor
namespace Go.Proofs.YtincjohoncljoaaGreatDoor
open Go Go.Sl
variable {r i z d o lb T:Nat} {g h:Hd} {Dy':Int→Prop} {s':Nat→Int} {st' k:Int} {sl wl:List Int} {L:List Slt} {x:Xm} {dy:List (Int × Hd)} {F:Lf} {dl:List Bool} {HF:qe}
attribute [local irreducible] W
def ids (G:Gr):List Int:=G.Q.flatten.map (·.1)
structure DI (G:Gr) (s:Nat→Int) (Dy:Int→Prop) (w:Int→Nat→Int) (u:Int→Int) (st:Int):Prop where
 inn:∀ r p,r<64→G.S.D[r]?=some p→(0<s r↔0<p.1)
 pos:∀ (r:Nat) (p:Int × Int),G.S.D[r]?=some p→0<p.1→0<p.2
 sle:∀ r,r<64→0≤s r∧s r≤st
 top:∀ z,Dy z→u z≤G.S.st
 old:∀ z r,Dy z→r<64→w z r≤st
 held:∀ z r p,Dy z→r<64→G.S.D[r]?=some p→0<w z r→w z r=s r→p.2≤u z
 scan:∀ l b pl,G.sc=some (l,b,pl)→b≤G.S.st∧∀ r p,r<64→G.S.D[r]?=some p→0<p.1→p.2≤b→l.testBit r=true
 que:∀ c∈G.Q.flatten,Dy c.1∧(c.2=0∨c.2=G.began∧0<c.2∧∃ l b pl,G.sc=some (l,b,pl)∧u c.1≤b)
 ord:∀ q∈G.Q,q.Pairwise (fun c d=>c.2=0→d.2=0)
theorem qbR:∀ {k x:Nat},Qi k x=0→∀ i,i<k→x.testBit i=false
 | 0,x,_,i,hi=>by omega
 | k+1,x,h,i,hi=>by
  unfold Qi at h
  have h2:Qi k x=0:=by omega
  have h1:(x.testBit k).toNat=0:=by omega
  by_cases e:i=k
  ·subst e
   cases hb:x.testBit i with
   | false=>rfl
   | true=>rw [hb] at h1; cases h1
  ·exact qbR h2 i zO
theorem qdn {S:Sct} {b:Int} {l:Nat} {r:Int} {p:Int × Int} (hi:i<64) (hl:l<18446744073709551616) (hp:S.D[i]?=some p) (h0:0<p.2) (hb:p.2≤b) (ht:l.testBit i=true):(YD S b l r).1.testBit i=true:=by
 unfold YD
 split
 ·exact ht
 ·rename_i hc
  rw [not_or] at hc
  have hr:0≤r∧r<64:=by
   apply Classical.byContradiction
   intro hn
   apply hc.1
   unfold ZX; rw [if_neg hn,Nat.and_zero]
  obtain ⟨j,rfl⟩:∃ j:Nat,r=(j:Int):=⟨r.toNat,by omega⟩
  show (QU l [(j:Int)]).testBit i=true
  rw [qee hl (by omega),ht,Bool.true_and,Bool.not_eq_true']
  apply decide_eq_false
  rintro rfl
  rw [qhm hi hp] at hc
  exact hc.2 ⟨h0,hb⟩
theorem Xh {S:Sct} {b:Int} {i:Nat} {p:Int × Int} (hi:i<64) (hp:S.D[i]?=some p) (h0:0<p.2) (hb:p.2≤b):∀ (k l:Nat) (pl:Int),l<18446744073709551616→l.testBit i=true→(Yi S b k l pl).1.testBit i=true
 | 0,l,pl,_,h=>h
 | k+1,l,pl,hl,h=>by
  unfold Yi
  cases ZI l pl with
  | none=>exact h
  | some r=>exact Xh hi hp h0 hb k _ _ (qa8 hl) (qdn hi hl hp h0 hb h)
theorem qbO {g:Int}:∀ {q:List (Int × Int)},(∀ c∈q,c.2=0∨c.2=g)→q.Pairwise (fun c d=>c.2=0→d.2=0)→∀ c∈ZU g q,c.2=0
 | [],_,_,c,h=>by simp [ZU] at h
 | x::q,hq,hp,c,h=>by
  unfold ZU twC at h
  rw [List.takeWhile_cons] at h
  obtain ⟨hx,hp2⟩:=List.pairwise_cons.1 hp
  by_cases hd:dnC g x=true
  ·rw [if_pos hd,List.length_cons,List.drop_succ_cons] at h
   exact qbO (fun c hc=>hq c (List.mem_cons_of_mem _ hc)) hp2 c h
  ·rw [if_neg hd] at h
   have x0:x.2=0:=by
    rcases hq x List.mem_cons_self with e | e
    ·exact e
    ·apply Classical.byContradiction
     intro hn
     apply hd
     unfold dnC
     rw [decide_eq_true hn,decide_eq_true (by omega)]; rfl
   rcases List.mem_cons.1 (by simpa using h) with rfl | hc
   ·exact x0
   ·exact hx c hc x0
theorem qg6 {g:Int} {q:List (Int × Int)} {c:Int × Int} (h:c∈ZU g q):c∈q:=List.mem_of_mem_drop h
theorem qj5 (g:Int) (q:List (Int × Int)):twC g q++ZU g q=q:=by
 have e:twC g q=q.take (twC g q).length:=by
  unfold twC
  exact (List.prefix_iff_eq_take.1 (List.takeWhile_prefix (dnC g)))
 unfold ZU
 rw [e,List.length_take,Nat.min_eq_left (by rw [← e] at *; exact (List.takeWhile_prefix (dnC g)).length_le)]
 exact List.take_append_drop _ _
theorem qbJ (g:Int):∀ Q:List (List (Int × Int)),(Yb g Q++(Q.map (ZU g)).flatten.map (·.1)).Perm (Q.flatten.map (·.1))
 | []=>.refl _
 | q::Q=>by
  have ih:=qbJ g Q
  have e:(q::Q).flatten.map (·.1)=(twC g q).map (·.1)++((ZU g q).map (·.1)++Q.flatten.map (·.1)):=by
   rw [List.flatten_cons,List.map_append,← List.append_assoc,← List.map_append (f:=fun x:Int × Int=>x.1) (l₁:=twC g q),qj5]
  rw [e]
  show ((twC g q).map (·.1)++Yb g Q++((ZU g q)++(Q.map (ZU g)).flatten).map (·.1)).Perm _
  rw [List.map_append,List.append_assoc]
  refine List.Perm.append_left _ ?_
  refine List.Perm.trans ?_ (List.Perm.append_left _ ih)
  rw [← List.append_assoc,← List.append_assoc]
  exact List.Perm.append_right _ List.perm_append_comm
theorem qfN (G:Gr):((Qo G).2++ids (Qo G).1).Perm (ids G):=by
 unfold Qo
 split
 ·exact .refl _
 ·split
  ·exact .refl _
  ·exact qbJ _ _
theorem qgg (G:Gr):ids (Jc G)=ids G:=by
 unfold Jc
 split
 ·rfl
 ·show ((G.Q.map (fun q=>q.map (ZM (G.began+1)))).flatten).map (·.1)=_
  unfold ids
  rw [← List.map_flatten,List.map_map]
  refine List.map_congr_left fun c _=>?_
  show (ZM _ c).1=c.1
  unfold ZM; split <;> rfl
theorem Xs (G:Gr):((zj G).2++ids (zj G).1).Perm (ids G):=by
 unfold zj; rw [qgg]; exact qfN G
section
variable {G:Gr} {s:Nat→Int} {Dy:Int→Prop} {w:Int→Nat→Int} {u:Int→Int} {st:Int} {n:Nat}
theorem DI.told (h:DI G s Dy w u st) (hok:z9 n G):∀ z∈(Qo G).2,∀ r,r<64→¬ (0<w z r∧w z r=s r):=by
 intro z hz r hr ⟨h0,he⟩
 unfold Qo at hz
 split at hz
 ·cases hz
 ·rename_i x hx
  obtain ⟨l,b,pl⟩:=x
  split at hz
  ·cases hz
  ·rename_i hp
   obtain ⟨q,hq,hz2⟩:=List.mem_flatMap.1 hz
   obtain ⟨c,hc,rfl⟩:=List.mem_map.1 hz2
   have hcq:c∈q:=(List.takeWhile_prefix (dnC G.began)).subset hc
   have hcd:dnC G.began c=true:=List.all_eq_true.1 (List.all_takeWhile) c hc
   obtain ⟨hD,hw⟩:=h.que c (List.mem_flatten.2 ⟨q,hq,hcq⟩)
   have hc0:c.2≠0:=by
    unfold dnC at hcd
    rw [Bool.and_eq_true] at hcd
    exact of_decide_eq_true hcd.1
   obtain ⟨_,_,l',b',pl',e,hu⟩:=hw.resolve_left hc0
   rw [hx] at e
   cases e
   obtain ⟨p,hpr⟩:∃ p,G.S.D[r]?=some p:=⟨_,List.getElem?_eq_getElem (by have:=hok.sok.len; omega)⟩
   have hin:0<p.1:=(h.inn r p hr hpr).1 zO
   have hle:=h.held c.1 r p hD hr hpr h0 he
   have hb:=(h.scan l b pl hx).2 r p hr hpr hin zO
   have hk:=Xh (b:=b) hr hpr (h.pos r p hpr hin) zO (min 16 (Qi 64 l)) l pl (hok.left _ _ _ hx) hb
   have hz0:Qi 64 (Xe G (l,b,pl)).1=0:=by omega
   have:=qbR hz0 r hr
   unfold Xe at this
   rw [hk] at this
   cases this
theorem DI.look (h:DI G s Dy w u st) (hok:z9 n G):DI (Qo G).1 s Dy w u st:=by
 unfold Qo
 split
 ·exact h
 ·rename_i x hx
  obtain ⟨l,b,pl⟩:=x
  split
  ·refine ⟨h.inn,h.pos,h.sle,h.top,h.old,h.held,fun l' b' pl' e=>?_,fun c hc=>?_,h.ord⟩
   ·cases e
    refine ⟨(h.scan l b pl hx).1,fun r p hr hp h1 h2=>?_⟩
    exact Xh hr hp (h.pos r p hp h1) h2 _ _ _ (hok.left _ _ _ hx) ((h.scan l b pl hx).2 r p hr hp h1 h2)
   ·obtain ⟨hD,hw⟩:=h.que c hc
    refine ⟨hD,hw.imp_right fun ⟨e,e0,l',b',pl',e1,e2⟩=>⟨e,e0,_,_,_,rfl,?_⟩⟩
    rw [hx] at e1; cases e1; exact e2
  ·have hop:∀ q∈G.Q,∀ c∈ZU G.began q,c.2=0:=fun q hq=>qbO (fun c hc=>by
    rcases (h.que c (List.mem_flatten.2 ⟨q,hq,hc⟩)).2 with e | e
    ·exact .inl e
    ·exact .inr e.1) (h.ord q hq)
   refine ⟨h.inn,h.pos,h.sle,h.top,h.old,h.held,fun l' b' pl' e=>(by cases e),fun c hc=>?_,fun q hq=>?_⟩
   ·obtain ⟨q',hq',hc'⟩:=List.mem_flatten.1 hc
    obtain ⟨q,hq,rfl⟩:=List.mem_map.1 hq'
    exact ⟨(h.que c (List.mem_flatten.2 ⟨q,hq,qg6 hc'⟩)).1,.inl (hop q hq c hc')⟩
   ·obtain ⟨q,hq',rfl⟩:=List.mem_map.1 hq
    exact (h.ord q hq').sublist (List.drop_sublist _ _)
theorem DI.begin (h:DI G s Dy w u st) (hok:z9 n G):DI (Jc G) s Dy w u st:=by
 unfold Jc
 split
 ·exact h
 ·rename_i hn
  rw [not_or] at hn
  have hsc:G.sc=none:=by
   cases e:G.sc with
   | none=>rfl
   | some x=>rw [e] at hn; exact absurd rfl hn.1
  have h0:∀ c∈G.Q.flatten,c.2=0:=fun c hc=>by
   rcases (h.que c hc).2 with e | ⟨_,_,l,b,pl,e,_⟩
   ·exact e
   ·rw [hsc] at e; cases e
  have hb:=hok.beg
  refine ⟨h.inn,h.pos,h.sle,h.top,h.old,h.held,fun l b pl e=>?_,fun c hc=>?_,fun q hq=>?_⟩
  ·cases e
   refine ⟨Int.le_refl _,fun r p hr hp h1 _=>?_⟩
   rw [hok.sok.bit r,hp]
   exact decide_eq_true h1
  ·rw [← List.map_flatten] at hc
   obtain ⟨d,hd,rfl⟩:=List.mem_map.1 hc
   have e:ZM (G.began+1) d=(d.1,G.began+1):=by unfold ZM; rw [if_pos (h0 d hd)]
   rw [e]
   refine ⟨(h.que d hd).1,.inr ⟨rfl,by show 0<G.began+1; omega,_,_,_,rfl,h.top _ (h.que d hd).1⟩⟩
  ·obtain ⟨q',hq',rfl⟩:=List.mem_map.1 hq
   rw [List.pairwise_map]
   refine List.Pairwise.imp_of_mem (R:=fun _ _=>True) (fun {c d} hc _ _ e=>?_) (List.pairwise_of_forall (fun _ _=>trivial))
   have:ZM (G.began+1) c=(c.1,G.began+1):=by unfold ZM; rw [if_pos (h0 c (List.mem_flatten.2 ⟨q',hq',hc⟩))]
   rw [this] at e
   exact absurd e (by show G.began+1≠0; omega)
theorem DI.poll (h:DI G s Dy w u st) (hok:z9 n G):DI (zj G).1 s Dy w u st:=(h.look hok).begin hok.look
theorem DI.fewer (h:DI G s Dy w u st) (hs:∀ z,Dy' z→Dy z) (hq:∀ z∈ids G,Dy' z):DI G s Dy' w u st :=
 ⟨h.inn,h.pos,h.sle,fun z hz=>h.top z (hs z hz),fun z r hz=>h.old z r (hs z hz),fun z r p hz=>h.held z r p (hs z hz),h.scan,fun c hc=>⟨hq _ (List.mem_map.2 ⟨c,hc,rfl⟩),(h.que c hc).2⟩,h.ord⟩
theorem qaa (h:(z%n)<G.Q.length):(∀ c∈(zV G n z).Q.flatten,c∈G.Q.flatten∨c=((z:Int),0))∧(∀ q∈(zV G n z).Q,q∈G.Q∨∃ q',q'∈G.Q∧q=q'++[((z:Int),0)])∧((ids (zV G n z)).Perm (ids G)∨(ids (zV G n z)).Perm ((z:Int)::ids G)):=by
 unfold zV
 obtain ⟨q,hq⟩:∃ q,G.Q[z%n]?=some q:=⟨_,List.getElem?_eq_getElem h⟩
 rw [hq]
 dsimp only
 unfold qdM
 split
 ·refine ⟨fun c hc=>?_,fun q' hq'=>?_,.inr ?_⟩
  ·obtain ⟨q',hq',hc'⟩:=List.mem_flatten.1 hc
   rcases List.mem_or_eq_of_mem_set hq' with hm | rfl
   ·exact .inl (List.mem_flatten.2 ⟨q',hm,hc'⟩)
   ·rcases List.mem_append.1 hc' with hm | hm
    ·exact .inl (List.mem_flatten.2 ⟨q,List.mem_of_getElem? hq,hm⟩)
    ·exact .inr (List.mem_singleton.1 hm)
  ·rcases List.mem_or_eq_of_mem_set hq' with hm | rfl
   ·exact .inl hm
   ·exact .inr ⟨q,List.mem_of_getElem? hq,rfl⟩
  ·unfold ids
   dsimp only
   have hl:=(List.getElem?_eq_some_iff.1 hq)
   have e1:G.Q=G.Q.take (z%n)++q::G.Q.drop (z%n+1):=by
    rw [← hl.2,← List.drop_eq_getElem_cons hl.1,List.take_append_drop]
   have e2:G.Q.set (z%n) (q++[((z:Int),0)])=G.Q.take (z%n)++(q++[((z:Int),0)])::G.Q.drop (z%n+1):=List.set_eq_take_append_cons_drop.trans (if_pos hl.1)
   rw [e2]
   conv=>rhs; rw [e1]
   simp only [List.flatten_append,List.flatten_cons,List.map_append,List.map_cons,List.map_nil,List.append_assoc]
   have:∀ a b c:List Int,(a++(b++([(z:Int)]++c))).Perm ((z:Int)::(a++(b++c))):=fun a b c=>by
    rw [← List.append_assoc,← List.append_assoc a b c]
    exact List.perm_middle
   exact this _ _ _
 ·have e:G.Q.set (z%n) q=G.Q:=by
   have hl:=(List.getElem?_eq_some_iff.1 hq)
   conv=>lhs; rw [← hl.2]
   exact List.set_getElem_self hl.1
  rw [e]
  exact ⟨fun c hc=>.inl hc,fun q' hq'=>.inl hq',.inl (.refl _)⟩
theorem K9 (G:Gr) (n z:Nat):(zV G n z).S=G.S∧(zV G n z).sc=G.sc∧(zV G n z).began=G.began:=by
 unfold zV; split <;> exact ⟨rfl,rfl,rfl⟩
theorem DI.call {w':Int→Nat→Int} {u':Int→Int} (h:DI G s Dy w u st) (hl:z%n<G.Q.length) (hD:∀ y,Dy' y→y=(z:Int)∨Dy y) (hDz:Dy' (z:Int)) (hDy:∀ y,Dy y→Dy' y)
  (hz:u' (z:Int)≤G.S.st∧∀ r,r<64→w' (z:Int) r≤st∧∀ p,G.S.D[r]?=some p→0<w' (z:Int) r→w' (z:Int) r=s r→p.2≤u' (z:Int))
  (ho:∀ y,Dy y→y≠(z:Int)→u' y=u y∧∀ r,r<64→w' y r=w y r) (hnew:(z:Int) ∉ ids G):DI (zV G n z) s Dy' w' u' st:=by
 obtain ⟨f1,f2,_⟩:=qaa (G:=G) hl
 obtain ⟨k1,k2,k3⟩:=K9 G n z
 refine ⟨by rw [k1]; exact h.inn,by rw [k1]; exact h.pos,h.sle,fun y hy=>?_,fun y r hy hr=>?_,fun y r p hy hr hp h1 h2=>?_,by rw [k1,k2]; exact h.scan,fun c hc=>?_,fun q hq=>?_⟩
 ·rw [k1]
  by_cases e:y=(z:Int)
  ·rw [e]; exact hz.1
  ·rw [(ho y ((hD y hy).resolve_left e) e).1]; exact h.top y ((hD y hy).resolve_left e)
 ·by_cases e:y=(z:Int)
  ·rw [e]; exact (hz.2 r hr).1
  ·rw [(ho y ((hD y hy).resolve_left e) e).2 r hr]; exact h.old y r ((hD y hy).resolve_left e) hr
 ·rw [k1] at hp
  by_cases e:y=(z:Int)
  ·subst e; exact (hz.2 r hr).2 p hp h1 h2
  ·rw [(ho y ((hD y hy).resolve_left e) e).2 r hr] at h1 h2
   rw [(ho y ((hD y hy).resolve_left e) e).1]; exact h.held y r p ((hD y hy).resolve_left e) hr hp h1 h2
 ·rw [k2,k3]
  rcases f1 c hc with hm | rfl
  ·have hne:c.1≠(z:Int):=fun e=>hnew (List.mem_map.2 ⟨c,hm,e⟩)
   rw [(ho _ (h.que c hm).1 hne).1]
   exact ⟨hDy _ (h.que c hm).1,(h.que c hm).2⟩
  ·exact ⟨hDz,.inl rfl⟩
 ·rcases f2 q hq with hm | ⟨q',hm,rfl⟩
  ·exact h.ord q hm
  ·rw [List.pairwise_append]
   exact ⟨h.ord q' hm,List.pairwise_singleton _ _,fun c _ d hd _=>by rw [List.mem_singleton.1 hd]⟩
theorem DI.again (h:DI G s Dy w u st) (hl:z%n<G.Q.length) (hz:Dy (z:Int)) (hnew:(z:Int) ∉ ids G):DI (zV G n z) s Dy w u st :=
 h.call hl (fun y hy=>.inr hy) hz (fun y hy=>hy) ⟨h.top _ hz,fun r hr=>⟨h.old _ r hz hr,fun p hp=>h.held _ r p hz hr hp⟩⟩ (fun y _ _=>⟨rfl,fun _ _=>rfl⟩) hnew
theorem DI.words {w':Int→Nat→Int} {u':Int→Int} (h:DI G s Dy w u st) (hq:∀ c∈G.Q.flatten,Dy' c.1∧u' c.1=u c.1)
  (hz:∀ z,Dy' z→u' z≤G.S.st∧∀ r,r<64→w' z r≤st∧∀ p,G.S.D[r]?=some p→0<w' z r→w' z r=s r→p.2≤u' z):DI G s Dy' w' u' st :=
 ⟨h.inn,h.pos,h.sle,fun z hd=>(hz z hd).1,fun z r hd hr=>((hz z hd).2 r hr).1,fun z r p hd hr=>((hz z hd).2 r hr).2 p,h.scan,fun c hc=>⟨(hq c hc).1,by rw [(hq c hc).2]; exact (h.que c hc).2⟩,h.ord⟩
theorem DI.alike (h:DI G s Dy w u st) (hs:∀ r,r<64→s' r=s r) (ht:st≤st'):DI G s' Dy w u st' :=
 ⟨fun r p hr=>by rw [hs r hr]; exact h.inn r p hr,h.pos,fun r hr=>by rw [hs r hr]; have:=h.sle r hr; omega,h.top,fun z r hz hr=>Int.le_trans (h.old z r hz hr) ht,fun z r p hz hr=>by rw [hs r hr]; exact h.held z r p hz hr,h.scan,h.que,h.ord⟩
theorem DI.sect {S':Sct} {p p':Int × Int} (h:DI G s Dy w u st) (hok:z9 n G) (hi:i<64) (hp:G.S.D[i]?=some p) (hD:S'.D=G.S.D.set i p') (hs:∀ r,r<64→r≠i→s' r=s r) (hst:st≤st') (hS:G.S.st≤S'.st)
  (h1:0<s' i↔0<p'.1) (h2:0≤s' i∧s' i≤st') (h3:0<p'.1→(p'.2=p.2∧s' i=s i∧0<p.1)∨(p'.2=G.S.st+1∧s' i=st+1)) (hst0:0≤G.S.st):DI { G with S:=S' } s' Dy w u st':=by
 have hil:i<G.S.D.length:=(List.getElem?_eq_some_iff.1 hp).1
 have at_:∀ r q,S'.D[r]?=some q→(r=i∧q=p')∨(r≠i∧G.S.D[r]?=some q):=fun r q hq=>by
  rw [hD] at hq
  by_cases e:r=i
  ·subst e; rw [List.getElem?_set_self hil] at hq; cases hq; exact .inl ⟨rfl,rfl⟩
  ·rw [List.getElem?_set_ne (fun q=>e q.symm)] at hq; exact .inr ⟨e,hq⟩
 refine ⟨fun r q hr hq=>?_,fun r q hq h0=>?_,fun r hr=>?_,fun z hz=>Int.le_trans (h.top z hz) hS,fun z r hz hr=>Int.le_trans (h.old z r hz hr) hst,fun z r q hz hr hq h0 he=>?_,fun l b pl e=>?_,h.que,h.ord⟩
 ·rcases at_ r q hq with ⟨rfl,rfl⟩ | ⟨e,hq⟩
  ·exact h1
  ·rw [hs r hr e]; exact h.inn r q hr hq
 ·rcases at_ r q hq with ⟨rfl,rfl⟩ | ⟨e,hq⟩
  ·rcases h3 h0 with ⟨e,_,h4⟩ | ⟨e,_⟩
   ·rw [e]; exact h.pos r p hp h4
   ·rw [e]; omega
  ·exact h.pos r q hq h0
 ·by_cases e:r=i
  ·rw [e]; exact h2
  ·rw [hs r hr e]; have:=h.sle r hr; omega
 ·rcases at_ r q hq with ⟨rfl,rfl⟩ | ⟨e,hq⟩
  ·have hin:=h1.1 zO
   rcases h3 hin with ⟨e,e2,h4⟩ | ⟨_,e2⟩
   ·rw [e]; exact h.held z r p hz hr hp h0 (by rw [← e2]; exact he)
   ·have:=h.old z r hz hr; omega
  ·rw [hs r hr e] at he; exact h.held z r q hz hr hq h0 he
 ·obtain ⟨hb,hsc⟩:=h.scan l b pl e
  refine ⟨Int.le_trans hb hS,fun r q hr hq h0 hle=>?_⟩
  rcases at_ r q hq with ⟨rfl,rfl⟩ | ⟨_,hq⟩
  ·rcases h3 h0 with ⟨e,_,h4⟩ | ⟨e,_⟩
   ·exact hsc r p hr hp h4 zO
   ·omega
  ·exact hsc r q hr hq h0 hle
theorem DI.enter (h:DI G s Dy w u st) (hok:z9 n G) (hi:i<64) (hst0:0≤st) 
  (hs:(enS G.S (i:Int)).2=0∧s i=0→st'=st+1∧s' i=st+1∧∀ r,r<64→r≠i→s' r=s r) (hn:¬ ((enS G.S (i:Int)).2=0∧s i=0)→st'=st∧∀ r,r<64→s' r=s r):DI { G with S:=(enS G.S (i:Int)).1 } s' Dy w u st':=by
 obtain ⟨p,hp⟩:∃ p,G.S.D[i]?=some p:=⟨_,List.getElem?_eq_getElem (by have:=hok.sok.len; omega)⟩
 have hpr:=hok.sok.rng p (List.mem_of_getElem? hp)
 have hin:=h.inn i p hi hp
 have hsl:=h.sle i hi
 rw [qbn hi hp] at hs hn ⊢
 by_cases c8:p.1=8
 ·rw [if_pos c8] at hs hn ⊢
  obtain ⟨rfl,e⟩:=hn (fun q=>absurd q.1 (show ¬ (3:Int)=0 by decide))
  exact h.alike e (Int.le_refl _)
 ·rw [if_neg c8] at hs hn ⊢
  by_cases c0:p.1=0
  ·rw [if_pos c0] at hs hn ⊢
   obtain ⟨rfl,e1,e2⟩:=hs ⟨rfl,by omega⟩
   exact h.sect hok hi hp rfl e2 (by omega) (by show G.S.st≤G.S.st+1; omega) (by rw [e1]; show 0<st+1↔(0:Int)<1; omega) (by rw [e1]; omega) (fun _=>.inr ⟨rfl,e1⟩) (by omega)
  ·rw [if_neg c0] at hs hn ⊢
   obtain ⟨rfl,e⟩:=hn (fun q=>by have:=q.2; omega)
   exact h.sect hok hi hp rfl (fun r hr _=>e r hr) (Int.le_refl _) (Int.le_refl _) (by rw [e i hi]; show 0<s i↔0<p.1+1; omega) (by rw [e i hi]; exact hsl) (fun _=>.inl ⟨rfl,e i hi,by omega⟩) (by omega)
theorem DI.exit (h:DI G s Dy w u st) (hok:z9 n G) (hi:i<64) 
  (hs:(exS G.S (i:Int)).2.1=true→s' i=0∧∀ r,r<64→r≠i→s' r=s r) (hn:(exS G.S (i:Int)).2.1=false→∀ r,r<64→s' r=s r) (hst0:0≤st):DI { G with S:=(exS G.S (i:Int)).1 } s' Dy w u st:=by
 obtain ⟨p,hp⟩:∃ p,G.S.D[i]?=some p:=⟨_,List.getElem?_eq_getElem (by have:=hok.sok.len; omega)⟩
 have hpr:=hok.sok.rng p (List.mem_of_getElem? hp)
 have hin:=h.inn i p hi hp
 have hsl:=h.sle i hi
 rw [qbl hi hp] at hs hn ⊢
 by_cases c0:p.1=0
 ·rw [if_pos c0] at hs hn ⊢
  exact h.alike (hn rfl) (Int.le_refl _)
 ·rw [if_neg c0] at hs hn ⊢
  by_cases c1:1<p.1
  ·rw [if_pos c1] at hs hn ⊢
   have e:=hn rfl
   exact h.sect hok hi hp rfl (fun r hr _=>e r hr) (Int.le_refl _) (Int.le_refl _) (by rw [e i hi]; show 0<s i↔0<p.1-1; omega) (by rw [e i hi]; exact hsl) (fun _=>.inl ⟨rfl,e i hi,by omega⟩) (by omega)
  ·rw [if_neg c1] at hs hn ⊢
   obtain ⟨e1,e2⟩:=hs rfl
   exact h.sect hok hi hp rfl e2 (Int.le_refl _) (Int.le_refl _) (by rw [e1]) (by rw [e1]; omega) (fun q=>absurd q (by decide)) (by omega)
theorem en_st (S:Sct) (r:Int):(enS S r).1.st≤S.st+1:=by
 unfold enS
 repeat' split
 all_goals first | (show S.st≤S.st+1; omega) | exact Int.le_refl _
theorem qi6 (S:Sct) (r:Int):(exS S r).1.st=S.st:=by
 unfold exS
 repeat' split
 all_goals rfl
theorem qbS (G:Gr):(zj G).1.S=G.S∧(zj G).1.began≤G.began+1:=by
 have h1:(Qo G).1.S=G.S∧(Qo G).1.began=G.began:=by
  unfold Qo; split
  ·exact ⟨rfl,rfl⟩
  ·split <;> exact ⟨rfl,rfl⟩
 unfold zj Jc
 dsimp only
 split
 ·exact ⟨h1.1,by rw [h1.2]; omega⟩
 ·exact ⟨h1.1,by show (Qo G).1.began+1≤_; rw [h1.2]; omega⟩
end
def sA (sl:List Int) (d r:Nat):Int:=(sl[d*64+r]?).getD 0
def wA (wl:List Int) (d:Nat) (z:Int) (r:Nat):Int:=(wl[z.toNat*128+(d*64+r)]?).getD 0
theorem qch {v:Int} (hl:sl.length=128) (hd:d<2) (hr:r<64) (d' r':Nat) (hr':r'<64):sA (sl.set (d*64+r) v) d' r'=if d'=d∧r'=r then v else sA sl d' r':=by
 unfold sA
 by_cases e:d'=d∧r'=r
 ·obtain ⟨rfl,rfl⟩:=e
  rw [if_pos ⟨rfl,rfl⟩,List.getElem?_set_self (by omega)]; rfl
 ·rw [if_neg e,List.getElem?_set_ne (by omega)]
def Kg {α:Type} (l:List α) (o:Nat) (r:List α):List α:=l.take o++r++l.drop (o+r.length)
theorem qgU {l r:List Int} (f:Int→Value):zf (l.map f) o (r.map f)=(Kg l o r).map f:=by
 unfold zf Kg; simp only [List.map_append,List.map_take,List.map_drop,List.length_map]
theorem qmr {α:Type} {l r:List α} (h:o+r.length≤l.length):(Kg l o r)[i]?=if o≤i∧i<o+r.length then r[i-o]? else l[i]?:=by
 unfold Kg
 by_cases c1:i<o
 ·rw [if_neg (by omega),List.append_assoc,List.getElem?_append_left (by rw [List.length_take]; omega),List.getElem?_take_of_lt c1]
 ·by_cases c2:i<o+r.length
  ·rw [if_pos (by omega),List.append_assoc,List.getElem?_append_right (by rw [List.length_take]; omega),List.length_take,Nat.min_eq_left (by omega),List.getElem?_append_left (by omega)]
  ·rw [if_neg (by omega),List.getElem?_append_right (by rw [List.length_append,List.length_take]; omega),List.length_append,List.length_take,Nat.min_eq_left (by omega),List.getElem?_drop]
   congr 1; omega
theorem qgC (hw:wl.length=8192) (hs:sl.length=128) (hz:z<16) {y:Int} (hy:0≤y∧y<16) (hd:d<2) (hr:r<64):wA (Kg wl (z*128) sl) d y r=if y=(z:Int) then sA sl d r else wA wl d y r:=by
 unfold wA sA
 rw [qmr (by rw [hs,hw]; omega),hs]
 by_cases e:y=(z:Int)
 ·subst e
  rw [if_pos rfl,Int.toNat_natCast,if_pos (by omega)]
  congr 2; omega
 ·rw [if_neg e,if_neg (by omega)]
theorem qkd {α:Type} {l r:List α} (h:o+r.length≤l.length):(Kg l o r).length=l.length:=by
 unfold Kg
 rw [List.length_append,List.length_append,List.length_take,List.length_drop]; omega
theorem qe5 {L':List Slt} (hl:L'.length=L.length) (ha:L'[h.slot.toNat]?=L[h.slot.toNat]?):zA L' h=zA L h:=by
 unfold zA; rw [hl,ha]
structure XI (x:Xm) (dy:List (Int × Hd)):Prop where
 len:x.L.length=16
 dy:∀ p∈dy,0≤p.1∧p.1<16∧p.2.slot=p.1∧zA x.L p.2=0∧∀ q∈x.C,q.2.slot≠p.1
theorem qc5 {f:Slt→Slt} (hi:h.slot.toNat≠i):(Qa L h f)[i]?=L[i]?:=by
 unfold Qa
 split
 ·split
  ·exact List.getElem?_set_ne hi
  ·rfl
 ·rfl
theorem qfy {f:Slt→Slt} (hf:∀ s,(f s).st=s.st∧(f s).own=s.own):zA (Qa L h f) g=zA L g:=by
 have key:(Qa L h f)[g.slot.toNat]?=L[g.slot.toNat]?∨∃ s,L[g.slot.toNat]?=some s∧(Qa L h f)[g.slot.toNat]?=some (f s):=by
  by_cases e:h.slot.toNat=g.slot.toNat
  ·unfold Qa
   rw [e]
   split
   ·rename_i s hs
    split
    ·exact .inr ⟨s,hs,List.getElem?_set_self (List.getElem?_eq_some_iff.1 hs).1⟩
    ·exact .inl rfl
   ·exact .inl rfl
  ·exact .inl (qc5 e)
 unfold zA
 rw [JU]
 rcases key with e | ⟨s,e1,e2⟩
 ·rw [e]
 ·rw [e1,e2]
  dsimp only
  rw [(hf s).1,(hf s).2]
theorem XI.put (h:XI x dy) (hx:x.Ok) (hk:x.kind=1) (k:Int) (ws:List Int):XI (x.put 0 k ws).1 dy∧(x.put 0 k ws).1.kind=1∧(x.put 0 k ws).2.1.out=false:=by
 unfold Xm.put
 split
 ·exact ⟨h,hk,rfl⟩
 ·split
  ·exact ⟨h,hk,rfl⟩
  ·split
   ·rw [if_neg (by decide)]
    refine ⟨⟨by show (Qa _ _ _).length=16; rw [JU]; exact h.len,fun p hp=>?_⟩,hk,rfl⟩
    have:=h.dy p hp
    refine ⟨this.1,this.2.1,this.2.2.1,?_,this.2.2.2.2⟩
    show zA (Qa x.L _ _) p.2=0
    refine (qfy ?_).trans ?_
    ·exact fun s=>⟨rfl,rfl⟩
    exact this.2.2.2.1
   ·split
    ·exact ⟨h,hk,rfl⟩
    ·rename_i hre
     rw [Classical.not_not] at hre
     split
     ·rename_i hc
      unfold Xm.refE at hre
      rw [if_neg (by omega),if_neg (by decide),if_pos ⟨hk,hc⟩] at hre
      cases hre
     ·obtain ⟨i,s,hf,hs⟩:=Xm.free_slot hre
      obtain ⟨s',hs',h0,-⟩:=Jm hf
      obtain rfl:s=s':=Option.some.inj (hs.symm.trans hs')
      rw [Xm.link_is hf hs]
      refine ⟨⟨by show (x.L.set i _).length=16; rw [List.length_set]; exact h.len,fun p hp=>?_⟩,hk,rfl⟩
      obtain ⟨d1,d2,d3,d4,d5⟩:=h.dy p hp
      obtain ⟨j,t,hj,ht,h1,_⟩:=JN d4
      have hij:i≠j:=fun e=>by
       subst e
       rw [hs] at ht; cases ht; omega
      refine ⟨d1,d2,d3,?_,fun q hq=>?_⟩
      ·rw [qe5 (L:=x.L) List.length_set (List.getElem?_set_ne (by rw [hj,Int.toNat_natCast]; exact hij))]
       exact d4
      ·rcases List.mem_cons.1 hq with rfl | hq
       ·show s.own.slot≠p.1
        rw [(hx.are.own i s hs).1]; omega
       ·exact d5 q hq
theorem XI.find (h:XI x dy) (k:Int):XI (x.find k).1 dy∧(x.find k).1.kind=x.kind:=by
 unfold Xm.find
 split
 ·exact ⟨⟨h.len,h.dy⟩,rfl⟩
 ·exact ⟨h,rfl⟩
theorem XI.found (h:XI x dy) (hx:x.Ok) (hf:Qz x.C k=some g):∃ z:Nat,z<16∧g.slot=(z:Int)∧zA x.L g=0∧∀ p∈dy,p.1≠(z:Int):=by
 obtain ⟨i,s,e1,e2,_⟩:=hx.own hf
 have hi:=(List.getElem?_eq_some_iff.1 e2).1
 rw [h.len] at hi
 exact ⟨i,hi,e1,hx.err0 hf,fun p hp e=>(h.dy p hp).2.2.2.2 _ (qbf hf) (by rw [e1,e])⟩
theorem XI.drop (h:XI x dy) (hx:x.Ok) (hf:Qz x.C k=some g) (hz:z<16) (hg:g.slot=(z:Int)):XI (x.unlink k).1 (dy++[((z:Int),g)]):=by
 refine ⟨h.len,fun p hp=>?_⟩
 rcases List.mem_append.1 hp with hp | hp
 ·obtain ⟨d1,d2,d3,d4,d5⟩:=h.dy p hp
  exact ⟨d1,d2,d3,d4,fun q hq=>d5 q (List.mem_filter.1 hq).1⟩
 ·obtain rfl:=List.mem_singleton.1 hp
  refine ⟨by show (0:Int)≤z; omega,by show (z:Int)<16; omega,hg,hx.err0 hf,fun q hq=>?_⟩
  obtain ⟨hq,hne⟩:=List.mem_filter.1 hq
  have hne:=of_decide_eq_true hne
  intro e
  have e:q.2.slot=(z:Int):=e
  obtain ⟨i,s,e1,e2,e3,e4,e5⟩:=hx.lk q hq
  obtain ⟨i',s',f1,f2,f3,f4,f5⟩:=hx.own hf
  obtain rfl:i=i':=by omega
  rw [e2] at f2
  cases f2
  exact hne (e5.symm.trans f5)
theorem XI.free {dy':List (Int × Hd)} (h:XI x dy) {z:Int} (hz:0≤z) (hg:g.slot=z) (hs:∀ p∈dy',p∈dy∧p.1≠z):XI (x.free g).1 dy'∧(x.free g).1.kind=x.kind:=by
 have key:XI x dy':=⟨h.len,fun p hp=>h.dy p (hs p hp).1⟩
 unfold Xm.free
 split
 ·exact ⟨key,rfl⟩
 ·split
  ·exact ⟨key,rfl⟩
  ·refine ⟨⟨by show (Qa _ _ _).length=16; rw [JU]; exact h.len,fun p hp=>?_⟩,rfl⟩
   obtain ⟨d1,d2,d3,d4,d5⟩:=key.dy p hp
   refine ⟨d1,d2,d3,?_,d5⟩
   show zA (Qa x.L g JX) p.2=0
   refine (qe5 (JU _ _ _) (qc5 (h:=g) (f:=JX) ?_)).trans d4
   have:=(hs p hp).2; omega
structure HI (F:Lf) (x:Xm) (sl wl:List Int) (dl:List Bool) (st:Int) (i:Nat) (ut uc:Int→Int):Prop where
 sle:sl.length=128
 wle:wl.length=8192
 st0:0≤st∧st≤i
 t:DI F.tr (sA sl 0) (fun z=>z∈ids F.tr) (wA wl 0) ut st
 c:DI F.cl (sA sl 1) (fun z=>z∈ids F.tr∨z∈ids F.cl) (wA wl 1) uc st
 f:∀ z∈ids F.cl,∀ r,r<64→¬ (0<wA wl 0 z r∧wA wl 0 z r=sA sl 0 r)
 nt:(ids F.tr).Nodup
 nc:(ids F.cl).Nodup
 ntc:∀ z∈ids F.tr,z ∉ ids F.cl
 dy:∀ z,z∈ids F.tr∨z∈ids F.cl→∃ h,(z,h)∈F.dy
 old:∀ z,(z∈ids F.tr∨z∈ids F.cl)→∀ r,r<64→wA wl 0 z r≤st
 dly:∀ n:Nat,n<16→dl[n]?=some (F.dy.any (fun p=>decide (p.1=(n:Int))))
 dll:dl.length=64
 ms:F.ms=[some (x,false),none,none,none]
 xi:XI x F.dy
 knd:x.kind=1
 rt:F.Rt=[]
 rw_:F.Rw=[]
 sb:F.tr.S.st≤i∧F.cl.S.st≤i∧F.tr.began≤i∧F.cl.began≤i
section
variable {F:Lf} {x:Xm} {sl wl:List Int} {dl:List Bool} {st:Int} {i n:Nat} {ut uc:Int→Int}
theorem HI.sects (h:HI F x sl wl dl st i ut uc) {S1 S2:Sct} {sl':List Int} (hsl:sl'.length=128) (hst:st≤st'∧st'≤st+1) (ht:DI { F.tr with S:=S1 } (sA sl' 0) (fun z=>z∈ids F.tr) (wA wl 0) ut st') (hc:DI { F.cl with S:=S2 } (sA sl' 1) (fun z=>z∈ids F.tr∨z∈ids F.cl) (wA wl 1) uc st')
  (hf:∀ r,r<64→sA sl' 0 r=sA sl 0 r∨sA sl' 0 r=st+1∨sA sl' 0 r=0) (hb:S1.st≤F.tr.S.st+1∧S2.st≤F.cl.S.st+1):HI { F with tr:={ F.tr with S:=S1 },cl:={ F.cl with S:=S2 } } x sl' wl dl st' (i+1) ut uc:=by
 have h0:=h.st0
 have hs:=h.sb
 refine ⟨hsl,h.wle,by omega,ht,hc,fun z hz r hr ⟨h1,h2⟩=>?_,h.nt,h.nc,h.ntc,h.dy,fun z hz r hr=>Int.le_trans (h.old z hz r hr) hst.1,h.dly,h.dll,h.ms,h.xi,h.knd,h.rt,h.rw_,?_⟩
 ·have ho:=h.old z (.inr hz) r hr
  rcases hf r hr with e | e | e
  ·exact h.f z hz r hr ⟨h1,h2.trans e⟩
  ·omega
  ·omega
 ·show S1.st≤((i+1:Nat):Int)∧S2.st≤((i+1:Nat):Int)∧F.tr.began≤((i+1:Nat):Int)∧F.cl.began≤((i+1:Nat):Int)
  omega
theorem le1 (a:Int):a≤a+1:=by omega
theorem le2 {a b:Int} (h:a=b):a≤b+1:=by omega
theorem HI.next (h:HI F x sl wl dl st i ut uc):HI F x sl wl dl st (i+1) ut uc:=by
 have h0:=h.st0
 have hs:=h.sb
 exact ⟨h.sle,h.wle,by omega,h.t,h.c,h.f,h.nt,h.nc,h.ntc,h.dy,h.old,h.dly,h.dll,h.ms,h.xi,h.knd,h.rt,h.rw_,by omega⟩
theorem HI.enT (h:HI F x sl wl dl st i ut uc) (ot:z9 n F.tr) (hr:r<64):((enS F.tr.S (r:Int)).2=0∧sA sl 0 r=0→HI { F with tr:={ F.tr with S:=(enS F.tr.S (r:Int)).1 } } x (sl.set (0*64+r) (st+1)) wl dl (st+1) (i+1) ut uc)∧(¬ ((enS F.tr.S (r:Int)).2=0∧sA sl 0 r=0)→HI { F with tr:={ F.tr with S:=(enS F.tr.S (r:Int)).1 } } x sl wl dl st (i+1) ut uc):=by
 have e0:=fun d' r' hr'=>qch (v:=st+1) h.sle (show 0<2 by decide) hr d' r' hr'
 constructor
 ·intro hc
  refine h.sects (by rw [List.length_set]; exact h.sle) (by omega) (h.t.enter ot hr h.st0.1 (fun _=>⟨rfl,by rw [e0 0 r hr,if_pos ⟨rfl,rfl⟩],fun r' hr' hn=>by rw [e0 0 r' hr',if_neg (fun q=>hn q.2)]⟩) (fun q=>absurd hc q)) (h.c.alike (fun r' hr'=>by rw [e0 1 r' hr',if_neg (fun q=>absurd q.1 (by decide))]) (by omega)) (fun r' hr'=>?_) ⟨en_st _ _,le1 _⟩
  rw [e0 0 r' hr']
  split
  ·exact .inr (.inl rfl)
  ·exact .inl rfl
 ·intro hc
  exact h.sects h.sle zO (h.t.enter ot hr h.st0.1 (fun q=>absurd q hc) (fun _=>⟨rfl,fun _ _=>rfl⟩)) h.c (fun r' hr'=>.inl rfl) ⟨en_st _ _,le1 _⟩
theorem HI.enC (h:HI F x sl wl dl st i ut uc) (ot:z9 n F.cl) (hr:r<64):((enS F.cl.S (r:Int)).2=0∧sA sl 1 r=0→HI { F with cl:={ F.cl with S:=(enS F.cl.S (r:Int)).1 } } x (sl.set (1*64+r) (st+1)) wl dl (st+1) (i+1) ut uc)∧(¬ ((enS F.cl.S (r:Int)).2=0∧sA sl 1 r=0)→HI { F with cl:={ F.cl with S:=(enS F.cl.S (r:Int)).1 } } x sl wl dl st (i+1) ut uc):=by
 have e0:=fun d' r' hr'=>qch (v:=st+1) h.sle (show 1<2 by decide) hr d' r' hr'
 constructor
 ·intro hc
  refine h.sects (by rw [List.length_set]; exact h.sle) (by omega) (h.t.alike (fun r' hr'=>by rw [e0 0 r' hr',if_neg (fun q=>absurd q.1 (by decide))]) (by omega)) (h.c.enter ot hr h.st0.1 (fun _=>⟨rfl,by rw [e0 1 r hr,if_pos ⟨rfl,rfl⟩],fun r' hr' hn=>by rw [e0 1 r' hr',if_neg (fun q=>hn q.2)]⟩) (fun q=>absurd hc q)) (fun r' hr'=>.inl ?_) ⟨le1 _,en_st _ _⟩
  rw [e0 0 r' hr',if_neg (fun q=>absurd q.1 (by decide))]
 ·intro hc
  exact h.sects h.sle zO h.t (h.c.enter ot hr h.st0.1 (fun q=>absurd q hc) (fun _=>⟨rfl,fun _ _=>rfl⟩)) (fun r' hr'=>.inl rfl) ⟨le1 _,en_st _ _⟩
theorem HI.exT (h:HI F x sl wl dl st i ut uc) (ot:z9 n F.tr) (hr:r<64):((exS F.tr.S (r:Int)).2.1=true→HI { F with tr:={ F.tr with S:=(exS F.tr.S (r:Int)).1 } } x (sl.set (0*64+r) 0) wl dl st (i+1) ut uc)∧((exS F.tr.S (r:Int)).2.1=false→HI { F with tr:={ F.tr with S:=(exS F.tr.S (r:Int)).1 } } x sl wl dl st (i+1) ut uc):=by
 have e0:=fun d' r' hr'=>qch (v:=0) h.sle (show 0<2 by decide) hr d' r' hr'
 have es:=qi6 F.tr.S (r:Int)
 constructor
 ·intro hc
  refine h.sects (by rw [List.length_set]; exact h.sle) (by omega) (h.t.exit ot hr (fun _=>⟨by rw [e0 0 r hr,if_pos ⟨rfl,rfl⟩],fun r' hr' hn=>by rw [e0 0 r' hr',if_neg (fun q=>hn q.2)]⟩) (fun q=>by rw [hc] at q; cases q) h.st0.1) (h.c.alike (fun r' hr'=>by rw [e0 1 r' hr',if_neg (fun q=>absurd q.1 (by decide))]) (by omega)) (fun r' hr'=>?_) ⟨le2 es,le1 _⟩
  rw [e0 0 r' hr']
  split
  ·exact .inr (.inr rfl)
  ·exact .inl rfl
 ·intro hc
  exact h.sects h.sle (by omega) (h.t.exit ot hr (fun q=>by rw [hc] at q; cases q) (fun _ _ _=>rfl) h.st0.1) h.c (fun r' hr'=>.inl rfl) ⟨le2 es,le1 _⟩
theorem HI.exC (h:HI F x sl wl dl st i ut uc) (ot:z9 n F.cl) (hr:r<64):((exS F.cl.S (r:Int)).2.1=true→HI { F with cl:={ F.cl with S:=(exS F.cl.S (r:Int)).1 } } x (sl.set (1*64+r) 0) wl dl st (i+1) ut uc)∧((exS F.cl.S (r:Int)).2.1=false→HI { F with cl:={ F.cl with S:=(exS F.cl.S (r:Int)).1 } } x sl wl dl st (i+1) ut uc):=by
 have e0:=fun d' r' hr'=>qch (v:=0) h.sle (show 1<2 by decide) hr d' r' hr'
 have es:=qi6 F.cl.S (r:Int)
 constructor
 ·intro hc
  refine h.sects (by rw [List.length_set]; exact h.sle) (by omega) (h.t.alike (fun r' hr'=>by rw [e0 0 r' hr',if_neg (fun q=>absurd q.1 (by decide))]) (by omega)) (h.c.exit ot hr (fun _=>⟨by rw [e0 1 r hr,if_pos ⟨rfl,rfl⟩],fun r' hr' hn=>by rw [e0 1 r' hr',if_neg (fun q=>hn q.2)]⟩) (fun q=>by rw [hc] at q; cases q) h.st0.1) (fun r' hr'=>.inl ?_) ⟨le1 _,le2 es⟩
  rw [e0 0 r' hr',if_neg (fun q=>absurd q.1 (by decide))]
 ·intro hc
  exact h.sects h.sle (by omega) h.t (h.c.exit ot hr (fun q=>by rw [hc] at q; cases q) (fun _ _ _=>rfl) h.st0.1) (fun r' hr'=>.inl rfl) ⟨le1 _,le2 es⟩
theorem HI.maps (h:HI F x sl wl dl st i ut uc) {x':Xm} (hx:XI x' F.dy) (hk:x'.kind=1):HI { F with ms:=F.ms.set 0 (some (x',false)) } x' sl wl dl st i ut uc :=
 ⟨h.sle,h.wle,h.st0,h.t,h.c,h.f,h.nt,h.nc,h.ntc,h.dy,h.old,h.dly,h.dll,by show F.ms.set 0 _=_; rw [h.ms]; rfl,hx,hk,h.rt,h.rw_,h.sb⟩
theorem HI.map0 (h:HI F x sl wl dl st i ut uc):JK F 0=some (x,false):=by unfold JK; rw [h.ms]; rfl
theorem HI.put (h:HI F x sl wl dl st i ut uc) (hx:x.Ok) (k:Int) (ws:List Int):HI (Kn F 0 0 k ws).1 (x.put 0 k ws).1 sl wl dl st (i+1) ut uc:=by
 obtain ⟨p1,p2,p3⟩:=h.xi.put hx h.knd k ws
 unfold Kn
 rw [h.map0]
 show HI (KU F 0 x false 0 k ws).1 _ _ _ _ _ _ _ _
 unfold KU
 rw [if_neg (by rw [p3]; decide)]
 exact (h.maps p1 p2).next
theorem HI.find (h:HI F x sl wl dl st i ut uc) (k:Int):HI (JE F 0 k).1 (x.find k).1 sl wl dl st i ut uc∧(JE F 0 k).2=(x.find k).2:=by
 obtain ⟨p1,p2⟩:=h.xi.find k
 unfold JE
 rw [h.map0]
 exact ⟨h.maps p1 (p2.trans h.knd),rfl⟩
end
section
variable {F:Lf} {x:Xm} {sl wl:List Int} {dl:List Bool} {st:Int} {i n m:Nat} {ut uc:Int→Int}
theorem HI.rng (h:HI F x sl wl dl st i ut uc) {y:Int} (hy:y∈ids F.tr∨y∈ids F.cl):0≤y∧y<16:=by
 obtain ⟨g,hg⟩:=h.dy y hy
 have:=h.xi.dy _ hg
 exact ⟨this.1,this.2.1⟩
theorem qm4 {z:Int} (h:∀ p∈dy,p.1≠z):dy.any (fun p=>decide (p.1=z))=false:=by
 rw [List.any_eq_false]
 exact fun p hp=>by simpa using h p hp
theorem HI.drop (h:HI F x sl wl dl st i ut uc) (hx:x.Ok) (ot:z9 n F.tr) (oc:z9 m F.cl) (hq:F.tr.Q.length=F.n) (hn:0<F.n) (hf:Qz x.C k=some g):∃ (z:Nat) (ut' uc':Int→Int),z<16∧qcl F 0 g=((z:Int),0)∧dl[z]?=some false∧(YF F 0 k).2=0∧HI (YF F 0 k).1 (x.unlink k).1 sl (Kg wl (z*128) sl) (dl.set z true) st (i+1) ut' uc':=by
 obtain ⟨z,hz,hg,he,hne⟩:=h.xi.found hx hf
 have hzt:∀ y,y∈ids F.tr∨y∈ids F.cl→y≠(z:Int):=fun y hy e=>by
  obtain ⟨g',hg'⟩:=h.dy y hy
  exact hne _ hg' e
 have e:YF F 0 k=(qdF { F with ms:=F.ms.set 0 (some ((x.unlink k).1,false)) } z g,0):=by
  unfold YF
  rw [h.map0]
  show qaq F (0:Int).toNat x false k=_
  unfold qaq
  have u:(x.unlink k).2=g:=by unfold Xm.unlink; dsimp only; rw [hf]; rfl
  have d:x.del k=((x.unlink k).1,(x.unlink k).2,0):=by unfold Xm.del; rw [if_neg (by rw [h.knd]; decide),hf]
  have ez:16*(0:Int).toNat+g.slot.toNat=z:=by rw [hg]; simp
  rw [d,if_pos rfl,u,ez]; rfl
 have hwA:∀ d r (y:Int),d<2→r<64→y∈ids F.tr∨y∈ids F.cl→wA (Kg wl (z*128) sl) d y r=wA wl d y r:=fun d r y hd hr hy=>by
  rw [qgC h.wle h.sle hz (h.rng hy) hd hr,if_neg (hzt y hy)]
 have hwZ:∀ d r,d<2→r<64→wA (Kg wl (z*128) sl) d (z:Int) r=sA sl d r:=fun d r hd hr=>by
  rw [qgC h.wle h.sle hz (by omega) hd hr,if_pos rfl]
 have hl:z%F.n<F.tr.Q.length:=by rw [hq]; exact Nat.mod_lt _ hn
 obtain ⟨f1,f2,f3⟩:=qaa (G:=F.tr) hl
 obtain ⟨k1,k2,k3⟩:=K9 F.tr F.n z
 have hmem:∀ y,y∈ids (zV F.tr F.n z)→y=(z:Int)∨y∈ids F.tr:=fun y hy=>by
  rcases f3 with p | p
  ·exact .inr (p.mem_iff.1 hy)
  ·exact List.mem_cons.1 (p.mem_iff.1 hy)
 have h0:=h.st0
 have hs:=h.sb
 have hdy:XJ F.dy (z:Int) g=F.dy++[((z:Int),g)]:=by
  unfold XJ
  rw [if_neg]
  rw [Bool.not_eq_true,List.any_eq_false]
  exact fun p hp=>by simpa using fun q=>hne p hp q.symm
 refine ⟨z,fun y=>if y=(z:Int) then F.tr.S.st else ut y,fun y=>if y=(z:Int) then F.cl.S.st else uc y,hz,?_,?_,by rw [e],?_⟩
 ·unfold qcl
  rw [h.map0]
  dsimp only
  rw [if_pos (show (x.key g).2=0 from he),hg]; simp
 ·rw [h.dly z hz,qm4 hne]
 ·rw [e]
  refine ⟨h.sle,by rw [qkd (by rw [h.sle,h.wle]; omega)]; exact h.wle,by omega,?_,?_,fun y hy r hr=>?_,?_,h.nc,fun y hy=>?_,fun y hy=>?_,fun y hy r hr=>?_,fun b hb=>?_,by rw [List.length_set]; exact h.dll,by show F.ms.set 0 _=_; rw [h.ms]; rfl,?_,h.knd,h.rt,h.rw_,?_⟩
  ·refine (h.t.call (n:=F.n) (z:=z) (Dy':=fun y=>y=(z:Int)∨y∈ids F.tr) (w':=wA (Kg wl (z*128) sl) 0) (u':=fun y=>if y=(z:Int) then F.tr.S.st else ut y) hl (fun y hy=>hy) (.inl rfl) (fun y hy=>.inr hy) ⟨by rw [if_pos rfl]; exact Int.le_refl _,fun r hr=>⟨by rw [hwZ 0 r (by decide) hr]; exact (h.t.sle r hr).2,fun p hp _ _=>by rw [if_pos rfl]; exact (ot.sok.rng p (List.mem_of_getElem? hp)).2.2.2⟩⟩ (fun y hy hyz=>⟨if_neg hyz,fun r hr=>hwA 0 r y (by decide) hr (.inl hy)⟩) (fun q=>hzt _ (.inl q) rfl)).fewer hmem (fun y hy=>hy)
  ·refine h.c.words (fun c hc=>?_) (fun y hy=>?_)
   ·have hcm:c.1∈ids F.cl:=List.mem_map.2 ⟨c,hc,rfl⟩
    exact ⟨.inr hcm,if_neg (hzt _ (.inr hcm))⟩
   ·by_cases ey:y=(z:Int)
    ·subst ey
     rw [if_pos rfl]
     exact ⟨Int.le_refl _,fun r hr=>⟨by rw [hwZ 1 r (by decide) hr]; exact (h.c.sle r hr).2,fun p hp _ _=>(oc.sok.rng p (List.mem_of_getElem? hp)).2.2.2⟩⟩
    ·rw [if_neg ey]
     have hy2:y∈ids F.tr∨y∈ids F.cl:=hy.imp_left fun q=>(hmem y q).resolve_left ey
     refine ⟨h.c.top y hy2,fun r hr=>?_⟩
     rw [hwA 1 r y (by decide) hr hy2]
     exact ⟨h.c.old y r hy2 hr,fun p hp=>h.c.held y r p hy2 hr hp⟩
  ·rw [hwA 0 r y (by decide) hr (.inr hy)]
   exact h.f y hy r hr
  ·show (ids (zV F.tr F.n z)).Nodup
   rcases f3 with p | p
   ·exact p.nodup_iff.2 h.nt
   ·exact p.nodup_iff.2 (List.nodup_cons.2 ⟨fun q=>hzt _ (.inl q) rfl,h.nt⟩)
  ·rcases hmem y hy with rfl | hm
   ·exact fun q=>hzt _ (.inr q) rfl
   ·exact h.ntc y hm
  ·show ∃ h,(y,h)∈XJ F.dy (z:Int) g
   rw [hdy]
   have:y=(z:Int)∨(y∈ids F.tr∨y∈ids F.cl):=by
    rcases hy with hy | hy
    ·exact (hmem y hy).imp_right .inl
    ·exact .inr (.inr hy)
   rcases this with rfl | hm
   ·exact ⟨g,List.mem_append_right _ List.mem_cons_self⟩
   ·obtain ⟨g',hg'⟩:=h.dy y hm
    exact ⟨g',List.mem_append_left _ hg'⟩
  ·have:y=(z:Int)∨(y∈ids F.tr∨y∈ids F.cl):=by
    rcases hy with hy | hy
    ·exact (hmem y hy).imp_right .inl
    ·exact .inr (.inr hy)
   rcases this with rfl | hm
   ·rw [hwZ 0 r (by decide) hr]; exact (h.t.sle r hr).2
   ·rw [hwA 0 r y (by decide) hr hm]; exact h.old y hm r hr
  ·show (dl.set z true)[b]?=some ((XJ F.dy (z:Int) g).any _)
   rw [hdy,List.any_append]
   by_cases eb:z=b
   ·subst eb
    rw [List.getElem?_set_self (by rw [h.dll]; omega)]
    simp
   ·rw [List.getElem?_set_ne eb,h.dly b hb]
    have:((z:Int)=(b:Int))↔False:=⟨fun q=>eb (Int.ofNat_inj.1 q),False.elim⟩
    simp [this]
  ·show XI (x.unlink k).1 (XJ F.dy (z:Int) g)
   rw [hdy]
   exact h.xi.drop hx hf hz hg
  ·show (zV F.tr F.n z).S.st≤((i+1:Nat):Int)∧F.cl.S.st≤((i+1:Nat):Int)∧(zV F.tr F.n z).began≤((i+1:Nat):Int)∧F.cl.began≤((i+1:Nat):Int)
   rw [k1,k3]; omega
end
theorem qjr (G:Gr) (n z:Nat):(zV G n z).Q.length=G.Q.length:=by
 unfold zV; split
 ·exact List.length_set
 ·rfl
theorem qjn {s:Nat→Int} {Dy:Int→Prop} {w:Int→Nat→Int} {u:Int→Int} {st:Int}:∀ {l:List Int} {F:Lf},DI F.cl s Dy w u st→F.cl.Q.length=F.n→0<F.n→l.Nodup→(∀ z∈l,Dy z∧0≤z)→(∀ z∈l,z ∉ ids F.cl)→(ids F.cl).Nodup→DI (Qc F l).cl s Dy w u st∧(ids (Qc F l).cl).Nodup∧(∀ z∈ids (Qc F l).cl,z∈ids F.cl∨z∈l)
 | [],F,c,_,_,_,_,_,hc=>⟨c,hc,fun z hz=>.inl hz⟩
 | z::l,F,c,hq,hn,hl,hD,hnew,hc=>by
  obtain ⟨hz0,hl2⟩:=List.nodup_cons.1 hl
  have hD0:=hD z List.mem_cons_self
  have ez:((z.toNat:Nat):Int)=z:=by omega
  have hzn:=hnew z List.mem_cons_self
  have hlt:z.toNat%F.n<F.cl.Q.length:=by rw [hq]; exact Nat.mod_lt _ hn
  obtain ⟨f1,f2,f3⟩:=qaa (G:=F.cl) hlt
  rw [ez] at f3
  have c2:DI (zV F.cl F.n z.toNat) s Dy w u st:=c.again hlt (by rw [ez]; exact hD0.1) (by rw [ez]; exact hzn)
  have hmem:∀ y,y∈ids (zV F.cl F.n z.toNat)→y=z∨y∈ids F.cl:=fun y hy=>by
   rcases f3 with p | p
   ·exact .inr (p.mem_iff.1 hy)
   ·exact List.mem_cons.1 (p.mem_iff.1 hy)
  obtain ⟨g1,g2,g3⟩:=qjn (l:=l) (F:={ F with cl:=zV F.cl F.n z.toNat }) c2 (by show (zV F.cl F.n z.toNat).Q.length=F.n; rw [qjr]; exact hq) hn hl2 (fun y hy=>hD y (List.mem_cons_of_mem _ hy)) (fun y hy hm=>by
   rcases hmem y hm with rfl | hm
   ·exact hz0 hy
   ·exact hnew y (List.mem_cons_of_mem _ hy) hm) (by
   show (ids (zV F.cl F.n z.toNat)).Nodup
   rcases f3 with p | p
   ·exact p.nodup_iff.2 hc
   ·exact p.nodup_iff.2 (List.nodup_cons.2 ⟨hzn,hc⟩))
  refine ⟨g1,g2,fun y hy=>?_⟩
  rcases g3 y hy with hm | hm
  ·rcases hmem y hm with rfl | hm
   ·exact .inr List.mem_cons_self
   ·exact .inl hm
  ·exact .inr (List.mem_cons_of_mem _ hm)
theorem qf4 {z:Int} (h:(z,g)∈dy):(z,zm dy z)∈dy:=by
 unfold zm
 cases hf:dy.find? (fun p=>decide (z=p.1)) with
 | none=>exact absurd (List.find?_eq_none.1 hf _ h) (by simp)
 | some p =>
  have h1:=List.mem_of_find?_eq_some hf
  have h2:z=p.1:=by simpa using List.find?_some hf
  subst h2
  exact h1
structure FI (F:Lf) (x:Xm):Prop where
 ms:F.ms=[some (x,false),none,none,none]
 xi:XI x F.dy
 knd:x.kind=1
 rt:F.Rt=[]
 rw_:F.Rw=[]
theorem FI.free (h:FI F x) {z:Int} (hg:(z,g)∈F.dy):∃ x' gn,FI (z8 F z.toNat).1 x'∧(z8 F z.toNat).2=[gn]∧gn.number=z∧gn.whole=false∧(z8 F z.toNat).1.dy=Z8 F.dy z∧(z8 F z.toNat).1.tr=F.tr∧(z8 F z.toNat).1.cl=F.cl∧(z8 F z.toNat).1.n=F.n:=by
 have hm:=qf4 hg
 have hx:=h.xi.dy _ hm
 have ez:((z.toNat:Nat):Int)=z:=Int.toNat_of_nonneg hx.1
 have e16:z.toNat/16=0:=by have:=hx.1; have:=hx.2.1; dsimp only at *; omega
 obtain ⟨p1,p2⟩:=h.xi.free (dy':=Z8 F.dy z) hx.1 hx.2.2.1 (fun p hp=>⟨(List.mem_filter.1 hp).1,fun e=>(of_decide_eq_true (List.mem_filter.1 hp).2) e.symm⟩)
 have e:z8 F z.toNat=qes F z.toNat x false:=by
  unfold z8
  rw [if_neg (by rw [h.rt,h.rw_]; rintro (q | q) <;> cases q),e16]
  have:JK F ((0:Nat):Int)=some (x,false):=by unfold JK; rw [h.ms]; rfl
  rw [this]
 rw [e]
 unfold qes
 rw [ez,e16]
 exact ⟨_,_,⟨by show F.ms.set 0 _=_; rw [h.ms]; rfl,p1,p2.trans h.knd,h.rt,h.rw_⟩,rfl,rfl,rfl,rfl,rfl,rfl,rfl⟩
theorem qdw:∀ {l:List Int} {F:Lf} {x:Xm} {o:List Gn},FI F x→l.Nodup→(∀ z∈l,∃ g,(z,g)∈F.dy)→∃ F' x' gs,l.foldl (fun s z=>((z8 s.1 z.toNat).1,s.2++(z8 s.1 z.toNat).2)) (F,o)=(F',o++gs)∧FI F' x'∧gs.map (·.number)=l∧(∀ g∈gs,g.whole=false)∧F'.dy=F.dy.filter (fun p=>decide (p.1 ∉ l))∧F'.tr=F.tr∧F'.cl=F.cl∧F'.n=F.n
 | [],F,x,o,h,_,_=>⟨F,x,[],by simp,h,rfl,fun g hg=>(by cases hg),(List.filter_eq_self.2 (fun _ _=>by simp)).symm,rfl,rfl,rfl⟩
 | z::l,F,x,o,h,hl,hD=>by
  obtain ⟨hz0,hl2⟩:=List.nodup_cons.1 hl
  obtain ⟨g,hg⟩:=hD z List.mem_cons_self
  obtain ⟨x1,gn,h1,e1,e2,e3,e4,e5,e6,e7⟩:=h.free hg
  obtain ⟨F',x',gs,i1,i2,i3,i4,i5,i6,i7,i8⟩:=qdw (l:=l) (F:=(z8 F z.toNat).1) (o:=o++[gn]) h1 hl2 (fun y hy=>by
   obtain ⟨g',hg'⟩:=hD y (List.mem_cons_of_mem _ hy)
   rw [e4]
   exact ⟨g',List.mem_filter.2 ⟨hg',decide_eq_true (fun q=>hz0 (by rw [show z=y from q]; exact hy))⟩⟩)
  refine ⟨F',x',gn::gs,?_,i2,by rw [List.map_cons,e2,i3],fun q hq=>?_,?_,i6.trans e5,i7.trans e6,i8.trans e7⟩
  ·rw [List.foldl_cons]
   dsimp only
   rw [e1,i1,List.append_assoc]; rfl
  ·rcases List.mem_cons.1 hq with rfl | hq
   ·exact e3
   ·exact i4 q hq
  ·rw [i5,e4]
   unfold Z8
   rw [List.filter_filter]
   refine List.filter_congr fun p _=>?_
   rw [← Bool.decide_and]
   exact decide_eq_decide.2 ⟨fun ⟨a,b⟩ q=>(List.mem_cons.1 q).elim (fun q=>b q.symm) a,fun q=>⟨fun a=>q (List.mem_cons_of_mem _ a),fun a=>q (by rw [← a]; exact List.mem_cons_self)⟩⟩
def qbw (dl:List Bool) (l:List Int):List Bool:=l.foldl (fun d z=>d.set z.toNat false) dl
theorem qbv:∀ (l:List Int) (dl:List Bool),(qbw dl l).length=dl.length
 | [],_=>rfl
 | z::l,dl=>(qbv l _).trans List.length_set
theorem qcJ:∀ {l:List Int} {dl:List Bool} {m:Nat},m<dl.length→(∀ z∈l,0≤z)→(qbw dl l)[m]?=if (m:Int)∈l then some false else dl[m]?
 | [],dl,m,_,_=>by simp [qbw]
 | z::l,dl,m,hm,hz=>by
  have hz0:=hz z List.mem_cons_self
  show (qbw (dl.set z.toNat false) l)[m]?=_
  rw [qcJ (by rw [List.length_set]; exact hm) (fun y hy=>hz y (List.mem_cons_of_mem _ hy))]
  by_cases e:(m:Int)∈l
  ·rw [if_pos e,if_pos (List.mem_cons_of_mem _ e)]
  ·rw [if_neg e]
   by_cases e2:z=(m:Int)
   ·subst e2
    rw [if_pos List.mem_cons_self,Int.toNat_natCast,List.getElem?_set_self hm]
   ·rw [if_neg (fun q=>(List.mem_cons.1 q).elim (fun q=>e2 q.symm) e),List.getElem?_set_ne (by omega)]
def t1F (F:Lf):List Int:=(zj F.tr).2
def t2F (F:Lf):List Int:=(zj (Qc { F with tr:=(zj F.tr).1 } (zj F.tr).2).cl).2
theorem JV (G:Gr) (z:Int) (h:z∈(zj G).2):z∈ids G:=(Xs G).mem_iff.1 (List.mem_append_left _ h)
theorem Zk (G:Gr) (z:Int) (h:z∈ids (zj G).1):z∈ids G:=(Xs G).mem_iff.1 (List.mem_append_right _ h)
theorem z9.cls:∀ {l:List Int} {F:Lf},z9 F.n F.cl→z9 F.n (Qc F l).cl
 | [],_,h=>h
 | z::l,F,h=>z9.cls (l:=l) (F:={ F with cl:=zV F.cl F.n z.toNat }) (z9.call h _)
theorem qln (F:Lf) (l:List Int):(Qc F l).tr=F.tr∧(Qc F l).dy=F.dy∧(Qc F l).Rt=F.Rt∧(Qc F l).Rw=F.Rw∧(Qc F l).cl.S=F.cl.S:=by
 unfold Qc
 induction l generalizing F with
 | nil=>exact ⟨rfl,rfl,rfl,rfl,rfl⟩
 | cons z l ih =>
  rw [List.foldl_cons]
  obtain ⟨a1,a2,a3,a4,a5⟩:=ih { F with cl:=zV F.cl F.n z.toNat }
  exact ⟨a1,a2,a3,a4,a5.trans (K9 _ _ _).1⟩
theorem HI.poll {st:Int} {ut uc:Int→Int} (h:HI F x sl wl dl st i ut uc) (ot:z9 F.n F.tr) (oc:z9 F.n F.cl) (hq:F.cl.Q.length=F.n) :
  (∃ x',HI (Jk F).1 x' sl wl (qbw dl (t2F F)) st (i+1) ut uc)∧(Jk F).2.map (·.number)=t2F F∧(∀ g∈(Jk F).2,g.whole=false)∧(t2F F).Nodup∧(∀ z∈t1F F,0≤z∧z<64)
 ∧∀ z∈t2F F,0≤z∧z<16∧dl[z.toNat]?=some true∧∀ r,r<64→¬ (0<wA wl 0 z r∧wA wl 0 z r=sA sl 0 r)∧¬ (0<wA wl 1 z r∧wA wl 1 z r=sA sl 1 r):=by
 have hn:0<F.n:=ot.n.1
 have hp1:=Xs F.tr
 have hnd1:((zj F.tr).2++ids (zj F.tr).1).Nodup:=hp1.nodup_iff.2 h.nt
 obtain ⟨nd1,nd2,nd3⟩:=List.nodup_append.1 hnd1
 have told1:=h.t.told ot
 have t1:DI (zj F.tr).1 (sA sl 0) (fun z=>z∈ids (zj F.tr).1) (wA wl 0) ut st:=(h.t.poll ot).fewer (fun z hz=>Zk _ z hz) (fun z hz=>hz)
 obtain ⟨F1,eF1⟩:∃ F1,F1=({ F with tr:=(zj F.tr).1 }:Lf):=⟨_,rfl⟩
 obtain ⟨l1,el1⟩:∃ l1,l1=(zj F.tr).2:=⟨_,rfl⟩
 have et2:t2F F=(zj (Qc F1 l1).cl).2:=by unfold t2F; rw [eF1,el1]
 obtain ⟨c1,c2,c3⟩:=qjn (l:=l1) (F:=F1) (by rw [eF1]; exact h.c) (by rw [eF1]; exact hq) (by rw [eF1]; exact hn) (by rw [el1]; exact nd1) (fun z hz=>by
  rw [el1] at hz
  have hm:=JV _ z hz
  exact ⟨.inl hm,(h.rng (.inl hm)).1⟩) (fun z hz=>by
  rw [el1] at hz; rw [eF1]
  exact h.ntc z (JV _ z hz)) (by rw [eF1]; exact h.nc)
 have k1:=qbu F1 l1
 have k2:=qln F1 l1
 have oc2:z9 F.n (Qc F1 l1).cl:=by
  have:=z9.cls (l:=l1) (F:=F1) (by rw [eF1]; exact oc)
  rw [eF1] at this ⊢; exact this
 obtain ⟨F2,eF2⟩:∃ F2,F2=Qc F1 l1:=⟨_,rfl⟩
 rw [← eF2] at c1 c2 c3 k1 k2 oc2 et2
 have c3':∀ z∈ids F2.cl,z∈ids F.cl∨z∈(zj F.tr).2:=fun z hz=>by
  have:=c3 z hz
  rw [eF1,el1] at this; exact this
 have hF2:∀ z∈ids F2.cl,z∈ids F.tr∨z∈ids F.cl:=fun z hz=>by
  rcases c3' z hz with hm | hm
  ·exact .inr hm
  ·exact .inl (JV _ z hm)
 have hp2:=Xs F2.cl
 have hnd2:((zj F2.cl).2++ids (zj F2.cl).1).Nodup:=hp2.nodup_iff.2 c2
 obtain ⟨md1,md2,md3⟩:=List.nodup_append.1 hnd2
 have told2:=c1.told oc2
 have c4:=c1.poll oc2
 have fF:∀ z∈ids F2.cl,∀ r,r<64→¬ (0<wA wl 0 z r∧wA wl 0 z r=sA sl 0 r):=fun z hz r hr=>by
  rcases c3' z hz with hm | hm
  ·exact h.f z hm r hr
  ·exact told1 z hm r hr
 obtain ⟨F3,eF3⟩:∃ F3,F3=({ F2 with cl:=(zj F2.cl).1 }:Lf):=⟨_,rfl⟩
 have hdy3:F3.dy=F.dy:=by rw [eF3]; exact k2.2.1.trans (by rw [eF1])
 have hFI:FI F3 x:=by
  rw [eF3]
  exact ⟨by show F2.ms=_; rw [k1.2.1,eF1]; exact h.ms,by show XI x F2.dy; rw [k2.2.1,eF1]; exact h.xi,h.knd,by show F2.Rt=[]; rw [k2.2.2.1,eF1]; exact h.rt,by show F2.Rw=[]; rw [k2.2.2.2.1,eF1]; exact h.rw_⟩
 obtain ⟨F4,x',gs,g1,g2,g3,g4,g5,g6,g7,g8⟩:=qdw (l:=(zj F2.cl).2) (F:=F3) (o:=[]) hFI md1 (fun z hz=>by
  rw [hdy3]
  exact h.dy z (hF2 z (JV _ z hz)))
 have eP:Jk F=({ F4 with ms:=F4.ms },gs):=by
  unfold Jk
  dsimp only
  rw [← el1,← eF1,← eF2,← eF3]
  unfold Yl
  rw [g1]
  dsimp only
  rw [List.nil_append,show Kx F4.ms gs 4=(F4.ms,gs) by rw [g2.ms]; rfl]
 have hall:∀ z∈t2F F,0≤z∧z<16∧dl[z.toNat]?=some true∧∀ r,r<64→¬ (0<wA wl 0 z r∧wA wl 0 z r=sA sl 0 r)∧¬ (0<wA wl 1 z r∧wA wl 1 z r=sA sl 1 r):=fun z hz=>by
  rw [et2] at hz
  have hm:=JV _ z hz
  have hr:=h.rng (hF2 z hm)
  obtain ⟨g,hg⟩:=h.dy z (hF2 z hm)
  refine ⟨hr.1,hr.2,?_,fun r hr=>⟨fF z hm r hr,told2 z hz r hr⟩⟩
  rw [h.dly z.toNat (by omega)]
  congr 1
  exact List.any_eq_true.2 ⟨_,hg,decide_eq_true (by show z=((z.toNat:Nat):Int); omega)⟩
 have h0:=h.st0
 have hs:=h.sb
 have p1:=qbS F.tr
 have p2:=qbS F2.cl
 have b2:F2.cl.began=F.cl.began:=k1.2.2.trans (by rw [eF1])
 have s2:F2.cl.S=F.cl.S:=k2.2.2.2.2.trans (by rw [eF1])
 have et4:F4.tr=(zj F.tr).1:=g6.trans (by rw [eF3]; exact k2.1.trans (by rw [eF1]))
 have ec4:F4.cl=(zj F2.cl).1:=g7.trans (by rw [eF3])
 refine ⟨⟨x',?_⟩,by rw [eP,et2]; exact g3,by rw [eP]; exact g4,by rw [et2]; exact md1,fun z hz=>?_,hall⟩
 ·rw [eP]
  refine ⟨h.sle,h.wle,by omega,by rw [et4]; exact t1,?_,fun z hz r hr=>?_,by rw [et4]; exact nd2,by rw [ec4]; exact md2,fun z hz hc=>?_,fun z hz=>?_,fun z hz r hr=>?_,fun b hb=>?_,by rw [qbv]; exact h.dll,g2.ms,g2.xi,g2.knd,g2.rt,g2.rw_,?_⟩
  ·rw [et4,ec4]
   exact c4.fewer (fun z hz=>by
    rcases hz with hz | hz
    ·exact .inl (Zk _ z hz)
    ·exact hF2 z (Zk _ z hz)) (fun z hz=>.inr hz)
  ·rw [ec4] at hz
   exact fF z (Zk _ z hz) r hr
  ·rw [et4] at hz; rw [ec4] at hc
   rcases c3' z (Zk _ z hc) with hm | hm
   ·exact h.ntc z (Zk _ z hz) hm
   ·exact nd3 z hm z hz rfl
  ·rw [et4,ec4] at hz
   show ∃ g,(z,g)∈F4.dy
   rw [g5,hdy3]
   have hzz:z ∉ (zj F2.cl).2:=fun q=>by
    rcases hz with hz | hz
    ·rcases c3' z (JV _ z q) with hm | hm
     ·exact h.ntc z (Zk _ z hz) hm
     ·exact nd3 z hm z hz rfl
    ·exact md3 z q z hz rfl
   obtain ⟨g,hg⟩:=h.dy z (by
    rcases hz with hz | hz
    ·exact .inl (Zk _ z hz)
    ·exact hF2 z (Zk _ z hz))
   exact ⟨g,List.mem_filter.2 ⟨hg,decide_eq_true hzz⟩⟩
  ·rw [et4,ec4] at hz
   exact h.old z (by
    rcases hz with hz | hz
    ·exact .inl (Zk _ z hz)
    ·exact hF2 z (Zk _ z hz)) r hr
  ·rw [qcJ (by rw [h.dll]; omega) (fun z hz=>(hall z hz).1),h.dly b hb]
   show _=some (F4.dy.any _)
   rw [g5,hdy3,et2,List.any_filter]
   by_cases eb:(b:Int)∈(zj F2.cl).2
   ·rw [if_pos eb]
    congr 1
    symm
    rw [List.any_eq_false]
    intro p hp
    by_cases e:p.1=(b:Int)
    ·rw [decide_eq_false (fun q=>q (by rw [e]; exact eb))]; simp
    ·rw [decide_eq_false e]; simp
   ·rw [if_neg eb]
    congr 1
    refine List.any_congr rfl fun p=>?_
    by_cases e:p.1=(b:Int)
    ·rw [decide_eq_true e,decide_eq_true (by rw [e]; exact eb)]; rfl
    ·rw [decide_eq_false e,Bool.and_false]
  ·show F4.tr.S.st≤((i+1:Nat):Int)∧F4.cl.S.st≤((i+1:Nat):Int)∧F4.tr.began≤((i+1:Nat):Int)∧F4.cl.began≤((i+1:Nat):Int)
   rw [et4,ec4,p1.1,p2.1,s2]
   omega
 ·have:=h.rng (.inl (JV _ z hz)); omega
theorem qk.back {P:Program} {w0:World} {f:FuncId} {args:Array Value} {H:qe} {R R':Value→qe→Prop} (h:qk P w0 f args H R) (hr:∀ v H',R v H'→∃ H2,R' v H2∧qr H' H2):qk P w0 f args H R' :=
 fun w hs=>(h w hs).mono fun _ _ ⟨v,H',e,r,s⟩=>by
  obtain ⟨H2,r2,hh⟩:=hr _ _ r
  exact ⟨v,H2,e,r2,s.hsub hh⟩
theorem Zw.en_st {S:Sct} {r:Int} (h:S.st<1000000000):(enS S r).1.st≤1000000000:=by have:=Go.Proofs.YtincjohoncljoaaGreatDoor.en_st S r; omega
theorem z9.en {n:Nat} {G:Gr} (h:z9 n G) {r:Int} (hs:G.S.st<1000000000):z9 n { G with S:=(enS G.S r).1 }:=⟨h.sok.en r,h.n,h.left,h.last,h.beg,Zw.en_st hs⟩
theorem z9.ex {n:Nat} {G:Gr} (h:z9 n G) {r:Int}:z9 n { G with S:=(exS G.S r).1 }:=⟨h.sok.ex r,h.n,h.left,h.last,h.beg,by show (exS G.S r).1.st≤_; rw [qi6]; exact h.st⟩
theorem zr.facts (hF:zr lb T F HF):z9 F.n F.tr∧z9 F.n F.cl∧F.tr.Q.length=F.n∧F.cl.Q.length=F.n∧∀ (i:Nat) (x:Xm) (b:Bool),F.ms[i]?=some (some (x,b))→x.Ok:=by
 cases hF with
 | @mk tb wb g1 g2 rb db M HT HW H1 H2 HR HD HM hT hO hW h1 o1 h2 o2 hR hU hD hM =>
  refine ⟨o1,o2,h1.len,h2.len,fun i x b hi=>?_⟩
  have hl:=(List.getElem?_eq_some_iff.1 hi).1
  obtain ⟨c,hc⟩:∃ c,M[i]?=some c:=⟨_,List.getElem?_eq_getElem (by rw [hM.m4,← hM.s4]; exact hl)⟩
  obtain ⟨X,hX⟩:∃ X,HM[i]?=some X:=⟨_,List.getElem?_eq_getElem (by rw [hM.h4,← hM.s4]; exact hl)⟩
  have h:=hM.at_ i c _ X hc hi hX
  cases h with
  | some h=>exact h.ok
theorem zr.doms (hF:zr lb T F HF):∃ g1 g2:Nat,(∀ (w0:World) (H:qe),(∀ p∈HF,p∈H)→qG Tryz.prog w0 H 10 [zp lb] (zp g1))∧(∀ (w0:World) (H:qe),(∀ p∈HF,p∈H)→qG Tryz.prog w0 H 11 [zp lb] (zp g2))∧(∀ (w0:World) (H:qe) (r:Int) (ad:Option Addr) (cap:Nat),F.tr.S.st<1000000000→(∀ HZ:qe,Holds w0 (HZ++H) ad [zi r])→qk Tryz.prog w0 12 #[zp g1,.slice ad 1 cap] (HF++H) (fun v H'=>∃ HF',zr lb T { F with tr:={ F.tr with S:=(enS F.tr.S r).1 } } HF'∧v=zi (enS F.tr.S r).2∧H'=HF'++H))∧(∀ (w0:World) (H:qe) (r:Int) (ad:Option Addr) (cap:Nat),F.cl.S.st<1000000000→(∀ HZ:qe,Holds w0 (HZ++H) ad [zi r])→qk Tryz.prog w0 12 #[zp g2,.slice ad 1 cap] (HF++H) (fun v H'=>∃ HF',zr lb T { F with cl:={ F.cl with S:=(enS F.cl.S r).1 } } HF'∧v=zi (enS F.cl.S r).2∧H'=HF'++H))∧(∀ (w0:World) (H:qe) (r:Int),qk Tryz.prog w0 13 #[zp g1,zi r] (HF++H) (fun v H'=>∃ HF',zr lb T { F with tr:={ F.tr with S:=(exS F.tr.S r).1 } } HF'∧v=.tuple #[.bool (exS F.tr.S r).2.1,zi (exS F.tr.S r).2.2]∧H'=HF'++H))∧(∀ (w0:World) (H:qe) (r:Int),qk Tryz.prog w0 13 #[zp g2,zi r] (HF++H) (fun v H'=>∃ HF',zr lb T { F with cl:={ F.cl with S:=(exS F.cl.S r).1 } } HF'∧v=.tuple #[.bool (exS F.cl.S r).2.1,zi (exS F.cl.S r).2.2]∧H'=HF'++H)):=by
 cases hF with
 | @mk tb wb g1 g2 rb db M HT HW H1 H2 HR HD HM hT hO hW h1 o1 h2 o2 hR hU hD hM =>
 refine ⟨g1,g2,fun w0 H hs=>qhA (tb:=tb) (wb:=wb) (g1:=g1) (g2:=g2) (rb:=rb) (db:=db) (hs _ List.mem_cons_self) hM.m4,fun w0 H hs=>qel (tb:=tb) (wb:=wb) (g1:=g1) (g2:=g2) (rb:=rb) (db:=db) (hs _ List.mem_cons_self) hM.m4,fun w0 H r ad cap hst hrow=>?_,fun w0 H r ad cap hst hrow=>?_,fun w0 H r=>?_,fun w0 H r=>?_⟩
 ·have e0:((lb,.cells 134 15 (qD F.n M tb wb g1 g2 rb db))::(HT++(HW++(H1++(H2++(HR++(HD++HM.flatten)))))))++H=(lb,.cells 134 15 (qD F.n M tb wb g1 g2 rb db))::(HT++(HW++(H1++(H2++(HR++(HD++(HM.flatten++H))))))):=by simp only [List.cons_append,List.append_assoc]
  rw [e0]
  refine qk.back (qk.hsub (qb2 h1 o1 (r:=r) (cap:=cap) (fun HZ=>by have:=hrow (HZ++((lb,.cells 134 15 (qD F.n M tb wb g1 g2 rb db))::(HT++(HW++(H2++(HR++(HD++HM.flatten))))))); simpa only [List.cons_append,List.append_assoc] using this) (H:=(lb,.cells 134 15 (qD F.n M tb wb g1 g2 rb db))::(HT++(HW++(H2++(HR++(HD++(HM.flatten++H)))))))) zH) ?_
  rintro v H' ⟨HG',hG',rfl,rfl⟩
  refine ⟨_,⟨_,.mk (F:={ F with tr:={ F.tr with S:=(enS F.tr.S r).1 } }) hT hO hW hG' (o1.en hst) h2 o2 hR hU hD hM,rfl,rfl⟩,?_⟩
  simp only [List.cons_append,List.append_assoc]
  first | exact ZW | (repeat (first | with_reducible exact qr.refl _ | refine qr.cons zT ?_ | refine qr.app zS ?_ | exact qr.nil _ | exact qr.refl _ | refine qr.drop ?_ | refine qr.dropS ?_))
 ·have e0:((lb,.cells 134 15 (qD F.n M tb wb g1 g2 rb db))::(HT++(HW++(H1++(H2++(HR++(HD++HM.flatten)))))))++H=(lb,.cells 134 15 (qD F.n M tb wb g1 g2 rb db))::(HT++(HW++(H1++(H2++(HR++(HD++(HM.flatten++H))))))):=by simp only [List.cons_append,List.append_assoc]
  rw [e0]
  refine qk.back (qk.hsub (qb2 h2 o2 (r:=r) (cap:=cap) (fun HZ=>by have:=hrow (HZ++((lb,.cells 134 15 (qD F.n M tb wb g1 g2 rb db))::(HT++(HW++(H1++(HR++(HD++HM.flatten))))))); simpa only [List.cons_append,List.append_assoc] using this) (H:=(lb,.cells 134 15 (qD F.n M tb wb g1 g2 rb db))::(HT++(HW++(H1++(HR++(HD++(HM.flatten++H)))))))) zH) ?_
  rintro v H' ⟨HG',hG',rfl,rfl⟩
  refine ⟨_,⟨_,.mk (F:={ F with cl:={ F.cl with S:=(enS F.cl.S r).1 } }) hT hO hW h1 o1 hG' (o2.en hst) hR hU hD hM,rfl,rfl⟩,?_⟩
  simp only [List.cons_append,List.append_assoc]
  first | exact ZW | (repeat (first | with_reducible exact qr.refl _ | refine qr.cons zT ?_ | refine qr.app zS ?_ | exact qr.nil _ | exact qr.refl _ | refine qr.drop ?_ | refine qr.dropS ?_))
 ·have e0:((lb,.cells 134 15 (qD F.n M tb wb g1 g2 rb db))::(HT++(HW++(H1++(H2++(HR++(HD++HM.flatten)))))))++H=(lb,.cells 134 15 (qD F.n M tb wb g1 g2 rb db))::(HT++(HW++(H1++(H2++(HR++(HD++(HM.flatten++H))))))):=by simp only [List.cons_append,List.append_assoc]
  rw [e0]
  refine qk.back (qk.hsub (h1.exit o1 (r:=r) (H:=(lb,.cells 134 15 (qD F.n M tb wb g1 g2 rb db))::(HT++(HW++(H2++(HR++(HD++(HM.flatten++H)))))))) zH) ?_
  rintro v H' ⟨HG',hG',rfl,rfl⟩
  refine ⟨_,⟨_,.mk (F:={ F with tr:={ F.tr with S:=(exS F.tr.S r).1 } }) hT hO hW hG' o1.ex h2 o2 hR hU hD hM,rfl,rfl⟩,?_⟩
  simp only [List.cons_append,List.append_assoc]
  first | exact ZW | (repeat (first | with_reducible exact qr.refl _ | refine qr.cons zT ?_ | refine qr.app zS ?_ | exact qr.nil _ | exact qr.refl _ | refine qr.drop ?_ | refine qr.dropS ?_))
 ·have e0:((lb,.cells 134 15 (qD F.n M tb wb g1 g2 rb db))::(HT++(HW++(H1++(H2++(HR++(HD++HM.flatten)))))))++H=(lb,.cells 134 15 (qD F.n M tb wb g1 g2 rb db))::(HT++(HW++(H1++(H2++(HR++(HD++(HM.flatten++H))))))):=by simp only [List.cons_append,List.append_assoc]
  rw [e0]
  refine qk.back (qk.hsub (h2.exit o2 (r:=r) (H:=(lb,.cells 134 15 (qD F.n M tb wb g1 g2 rb db))::(HT++(HW++(H1++(HR++(HD++(HM.flatten++H)))))))) zH) ?_
  rintro v H' ⟨HG',hG',rfl,rfl⟩
  refine ⟨_,⟨_,.mk (F:={ F with cl:={ F.cl with S:=(exS F.cl.S r).1 } }) hT hO hW h1 o1 hG' o2.ex hR hU hD hM,rfl,rfl⟩,?_⟩
  simp only [List.cons_append,List.append_assoc]
  first | exact ZW | (repeat (first | with_reducible exact qr.refl _ | refine qr.cons zT ?_ | refine qr.app zS ?_ | exact qr.nil _ | exact qr.refl _ | refine qr.drop ?_ | refine qr.dropS ?_))
def gA (d g1 g2:Nat):Nat:=if d=1 then g2 else g1
def enD (F:Lf) (d:Nat) (r:Int):Lf × Int:=if d=1 then ({ F with cl:={ F.cl with S:=(enS F.cl.S r).1 } },(enS F.cl.S r).2) else ({ F with tr:={ F.tr with S:=(enS F.tr.S r).1 } },(enS F.tr.S r).2)
def exD (F:Lf) (d:Nat) (r:Int):Lf × Bool × Int:=if d=1 then ({ F with cl:={ F.cl with S:=(exS F.cl.S r).1 } },(exS F.cl.S r).2) else ({ F with tr:={ F.tr with S:=(exS F.tr.S r).1 } },(exS F.tr.S r).2)
section
variable {F:Lf} {x:Xm} {sl wl:List Int} {dl:List Bool} {st:Int} {i n d:Nat} {ut uc:Int→Int}
theorem HI.en (h:HI F x sl wl dl st i ut uc) (ot:z9 n F.tr) (oc:z9 n F.cl) (hd:d<2) (hr:r<64):((enD F d (r:Int)).2=0∧sA sl d r=0→HI (enD F d (r:Int)).1 x (sl.set (d*64+r) (st+1)) wl dl (st+1) (i+1) ut uc)∧(¬ ((enD F d (r:Int)).2=0∧sA sl d r=0)→HI (enD F d (r:Int)).1 x sl wl dl st (i+1) ut uc):=by
 rcases (show d=0∨d=1 by omega) with rfl | rfl
 ·exact h.enT ot hr
 ·exact h.enC oc hr
theorem HI.ex (h:HI F x sl wl dl st i ut uc) (ot:z9 n F.tr) (oc:z9 n F.cl) (hd:d<2) (hr:r<64):((exD F d (r:Int)).2.1=true→HI (exD F d (r:Int)).1 x (sl.set (d*64+r) 0) wl dl st (i+1) ut uc)∧((exD F d (r:Int)).2.1=false→HI (exD F d (r:Int)).1 x sl wl dl st (i+1) ut uc):=by
 rcases (show d=0∨d=1 by omega) with rfl | rfl
 ·exact h.exT ot hr
 ·exact h.exC oc hr
end
theorem zr.dom (hF:zr lb T F HF) (hd:d<2):∃ g1 g2:Nat,(∀ (w0:World) (H:qe),(∀ p∈HF,p∈H)→qG Tryz.prog w0 H 10 [zp lb] (zp g1))∧(∀ (w0:World) (H:qe),(∀ p∈HF,p∈H)→qG Tryz.prog w0 H 11 [zp lb] (zp g2))
 ∧(∀ (w0:World) (H:qe) (r:Int) (ad:Option Addr) (cap:Nat),F.tr.S.st<1000000000→F.cl.S.st<1000000000→(∀ HZ:qe,Holds w0 (HZ++H) ad [zi r])→qk Tryz.prog w0 12 #[.pointer (some ⟨(gA d g1 g2),0,none⟩),.slice ad 1 cap] (HF++H) (fun v H'=>∃ HF',zr lb T (enD F d r).1 HF'∧v=zi (enD F d r).2∧H'=HF'++H))
 ∧(∀ (w0:World) (H:qe) (r:Int),qk Tryz.prog w0 13 #[.pointer (some ⟨(gA d g1 g2),0,none⟩),zi r] (HF++H) (fun v H'=>∃ HF',zr lb T (exD F d r).1 HF'∧v=.tuple #[.bool (exD F d r).2.1,zi (exD F d r).2.2]∧H'=HF'++H)):=by
 obtain ⟨g1,g2,q1,q2,e1,e2,x1,x2⟩:=hF.doms
 refine ⟨g1,g2,q1,q2,?_⟩
 rcases (show d=0∨d=1 by omega) with rfl | rfl
 ·exact ⟨fun w0 H r ad cap h _=>e1 w0 H r ad cap h,x1⟩
 ·exact ⟨fun w0 H r ad cap _ h=>e2 w0 H r ad cap h,x2⟩
theorem qc0 (h:sl.length=128) (hd:d<2) (hr:r<64):(sl.map (Value.int .i64))[0+d*64+r*1]?=some (zi (sA sl d r)):=by
 rw [List.getElem?_map,show 0+d*64+r*1=d*64+r by omega]
 unfold sA
 rw [List.getElem?_eq_getElem (by omega)]; rfl
theorem YZ (h:wl.length=8192) (hz:z<16) (hd:d<2) (hr:r<64):(wl.map (Value.int .i64))[0+z*128+d*64+r*1]?=some (zi (wA wl d (z:Int) r)):=by
 rw [List.getElem?_map,show 0+z*128+d*64+r*1=z*128+(d*64+r) by omega]
 unfold wA
 rw [Int.toNat_natCast,List.getElem?_eq_getElem (by omega)]; rfl
theorem qgV {v:Int}:(sl.map (Value.int .i64)).set (0+d*64+r*1) (zi v)=(sl.set (d*64+r) v).map (Value.int .i64):=by
 rw [List.map_set,show 0+d*64+r*1=d*64+r by omega]
theorem qja {v:Bool}:(dl.map Value.bool).set (0+z*1) (.bool v)=(dl.set z v).map Value.bool:=by
 rw [List.map_set,show 0+z*1=z by omega]
theorem qmb {b:Bool} (h:dl[z]?=some b):(dl.map Value.bool)[0+z*1]?=some (.bool b):=by
 rw [List.getElem?_map,show 0+z*1=z by omega,h]; rfl
theorem qco {l:List Value} {a b:Nat} (h:a<b) (e:l.length=b):Nat.blt a l.length=true:=by rw [Nat.blt_eq,e]; exact h
theorem HI.start {m:Nat} {Ws:List Wl}:HI (sF m Ws) (Xm.new 1 8 1) (List.replicate 128 0) (List.replicate 8192 0) (List.replicate 64 false) 0 0 (fun _=>0) (fun _=>0):=by
 have hq:∀ k:Nat,(List.replicate k ([]:List (Int × Int))).flatten=[]:=fun k=>by
  induction k with
  | zero=>rfl
  | succ k ih=>rw [List.replicate_succ,List.flatten_cons,ih]; rfl
 have hids:ids (gr0 m)=[]:=by unfold ids; show ((List.replicate m []).flatten).map _=[]; rw [hq]; rfl
 have hs:∀ d r,d<2→r<64→sA (List.replicate 128 0) d r=0:=fun d r hd hr=>by unfold sA; rw [List.getElem?_replicate,if_pos (by omega)]; rfl
 have hD:∀ (d:Nat) (Dy:Int→Prop),d<2→(∀ z,¬ Dy z)→DI (gr0 m) (sA (List.replicate 128 0) d) Dy (wA (List.replicate 8192 0) d) (fun _=>0) 0:=fun d Dy hd hn=>by
  have hp:∀ (r:Nat) (p:Int × Int),(gr0 m).S.D[r]?=some p→p=(0,0):=fun r p h=>(List.mem_replicate.1 (List.mem_of_getElem? h)).2
  refine ⟨fun r p hr h=>?_,fun r p h h0=>?_,fun r hr=>?_,fun z hz=>absurd hz (hn z),fun z r hz=>absurd hz (hn z),fun z r p hz=>absurd hz (hn z),fun l b pl e=>(by cases e),fun c hc=>?_,fun q hq'=>?_⟩
  ·rw [hp r p h,hs d r hd hr]
  ·rw [hp r p h] at h0; cases h0
  ·rw [hs d r hd hr]; omega
  ·have hc:c∈(List.replicate m ([]:List (Int × Int))).flatten:=hc
   rw [hq] at hc; cases hc
  ·rw [(List.mem_replicate.1 (show q∈List.replicate m [] from hq')).2]; exact List.Pairwise.nil
 have hni:∀ z:Int,¬ (z∈ids (sF m Ws).tr∨z∈ids (sF m Ws).cl):=fun z h=>by
  rcases h with h | h
  ·have h:z∈ids (gr0 m):=h
   rw [hids] at h; cases h
  ·have h:z∈ids (gr0 m):=h
   rw [hids] at h; cases h
 exact ⟨List.length_replicate,List.length_replicate,by omega,hD 0 _ (by decide) (fun z h=>hni z (.inl h)),hD 1 _ (by decide) hni,fun z h=>absurd (.inr h) (hni z),by show (ids (gr0 m)).Nodup; rw [hids]; exact List.nodup_nil,by show (ids (gr0 m)).Nodup; rw [hids]; exact List.nodup_nil,fun z h=>absurd (.inl h) (hni z),fun z h=>absurd h (hni z),fun z h=>absurd h (hni z),fun b hb=>by rw [List.getElem?_replicate,if_pos (by omega)]; rfl,List.length_replicate,rfl,⟨rfl,fun p hp=>by cases hp⟩,rfl,rfl,rfl,by
  show (0:Int)≤((0:Nat):Int)∧(0:Int)≤((0:Nat):Int)∧(0:Int)≤((0:Nat):Int)∧(0:Int)≤((0:Nat):Int)
  omega⟩
end Go.Proofs.YtincjohoncljoaaGreatDoor
