/-
  Own work: contracts of functions that the statement reaches, and plain facts on what they compute; each theorem says its conditions.
-/
import Derived.Test.YtincjohoncljoaaGreatDoorLfT9
import Derived.Test.YtincjohoncljoaaGreatDoorLfS3
import Derived.Test.YtincjohoncljoaaGreatDoorLfS2
import Derived.Test.YtincjohoncljoaaGreatDoorLfS1
import Derived.Test.YtincjohoncljoaaGreatDoorLfT5
import Derived.Lib.LaidTab
import Derived.Lib.LaidIn
import Derived.Stop.LaidErr
import Derived.Test.YtincjohoncljoaaGreatDoorCards
import Derived.Test.YtincjohoncljoaaGreatDoorTie
import Derived.Test.YtincjohoncljoaaGreatDoorLfA
set_option linter.all false
set_option linter.unusedSimpArgs false
set_option linter.unusedVariables false
set_option maxHeartbeats 16000000
namespace Go.Proofs.YtincjohoncljoaaGreatDoor
open Go Go.Sl
attribute [local irreducible] W
attribute [local irreducible] freeF
def clsAll (F:Lf) (l:List Int):Lf:=l.foldl (fun F z=>{ F with cl:=callG F.cl F.n z.toNat }) F
def frees (F:Lf) (l:List Int):Lf × List Gn:=l.foldl (fun s z=>((freeF s.1 z.toNat).1,s.2++(freeF s.1 z.toNat).2)) (F,[])
def goneS (ms0:List (Option (Xm × Bool))) (s:List (Option (Xm × Bool)) × List Gn) (k:Nat):List (Option (Xm × Bool)) × List Gn:=match ms0[k]? with
 | some (some (x,true))=>if cntA 1 x.L=0 then (s.1.set k none,s.2++[⟨(k:Int),0,0,true⟩]) else s
 | _=>s
def goneN (ms0:List (Option (Xm × Bool))) (out:List Gn):Nat→List (Option (Xm × Bool)) × List Gn
 | 0=>(ms0,out)
 | k+1=>goneS ms0 (goneN ms0 out k) k
def pollL (F:Lf):Lf × List Gn :=
 let F2:=clsAll { F with tr:=(pollG F.tr).1 } (pollG F.tr).2
 let r:=frees { F2 with cl:=(pollG F2.cl).1 } (pollG F2.cl).2
 ({ r.1 with ms:=(goneN r.1.ms r.2 4).1 },(goneN r.1.ms r.2 4).2)
theorem clsAll_at {F:Lf} {l:List Int} {i:Nat} {z:Int} (h:l[i]?=some z):clsAll F (l.take (i+1))={ clsAll F (l.take i) with cl:=callG (clsAll F (l.take i)).cl (clsAll F (l.take i)).n z.toNat }:=by
 unfold clsAll; rw [takeAt h,List.foldl_append]; rfl
theorem frees_at {F:Lf} {l:List Int} {i:Nat} {z:Int} (h:l[i]?=some z):frees F (l.take (i+1))=((freeF (frees F (l.take i)).1 z.toNat).1,(frees F (l.take i)).2++(freeF (frees F (l.take i)).1 z.toNat).2):=by
 unfold frees; rw [takeAt h,List.foldl_append]; rfl
theorem free_len (F:Lf) (z:Nat):(freeF F z).2.length≤1:=by
 unfold freeF; split
 ·exact Nat.zero_le _
 ·split
  ·exact Nat.zero_le _
  ·exact Nat.le_refl 1
theorem free_map {F:Lf} {z:Nat} (hz:z<64) (hl:F.ms.length=4) (m:Int):(mapF (freeF F z).1 m).isSome=(mapF F m).isSome∧(freeF F z).1.ms.length=4:=by
 unfold freeF
 split
 ·exact ⟨rfl,hl⟩
 ·split
  ·exact ⟨rfl,hl⟩
  ·rename_i x b hm
   refine ⟨?_,by show (F.ms.set _ _).length=4; rw [List.length_set]; exact hl⟩
   unfold mapF
   by_cases c:0≤m∧m<4
   ·rw [if_pos c,if_pos c]
    show (((F.ms.set (z/16) _)[m.toNat]?).getD none).isSome=_
    by_cases e:z/16=m.toNat
    ·rw [e,List.getElem?_set_self (by omega)]
     unfold mapF at hm
     rw [if_pos (by omega),Int.toNat_natCast,e] at hm
     rw [hm]; rfl
    ·rw [List.getElem?_set_ne e]
   ·rw [if_neg c,if_neg c]
theorem frees_map {F:Lf} {l:List Int} (hl:F.ms.length=4) (hz:∀ z∈l,0≤z∧z<64) (m:Int):∀ i:Nat,(mapF (frees F (l.take i)).1 m).isSome=(mapF F m).isSome∧(frees F (l.take i)).1.ms.length=4∧(frees F (l.take i)).2.length≤i
 | 0=>⟨rfl,hl,Nat.le_refl 0⟩
 | i+1=>by
  obtain ⟨h1,h2,h3⟩:=frees_map hl hz m i
  cases hc:l[i]? with
  | none =>
   have:l.take (i+1)=l.take i:=by rw [List.take_add_one,hc]; simp
   rw [this]; exact ⟨h1,h2,by omega⟩
  | some z =>
   rw [frees_at hc]
   have hr:=hz z (List.mem_of_getElem? hc)
   obtain ⟨e1,e2⟩:=free_map (F:=(frees F (l.take i)).1) (z:=z.toNat) zO h2 m
   refine ⟨e1.trans h1,e2,?_⟩
   have:=free_len (frees F (l.take i)).1 z.toNat
   rw [List.length_append]; omega
theorem cls_keep (F:Lf) (l:List Int):(clsAll F l).n=F.n∧(clsAll F l).ms=F.ms∧(clsAll F l).cl.began=F.cl.began:=by
 unfold clsAll
 induction l generalizing F with
 | nil=>exact ⟨rfl,rfl,rfl⟩
 | cons z l ih =>
  rw [List.foldl_cons]
  obtain ⟨h1,h2,h3⟩:=ih { F with cl:=callG F.cl F.n z.toNat }
  refine ⟨h1,h2,h3.trans ?_⟩
  show (callG F.cl F.n z.toNat).began=_
  unfold callG; split <;> rfl
theorem lf_all {n:Nat} {M:List (Option Nat × Bool)} {tb wb g1 g2 rb db:Nat} (h:M.length=4):((lfRow n M tb wb g1 g2 rb db).drop 1).take 8=M.flatMap mcC:=by
 unfold lfRow
 rw [List.drop_succ_cons,List.drop_zero,List.take_append_of_le_length (by rw [rows_len mcC_len,h]; decide),List.take_of_length_le (by rw [rows_len mcC_len,h]; decide)]
theorem LifeH.poll {w0:World} {H:Heap} {HF0:Heap} {lb T:Nat} {F0:Lf} (hF0:LifeH lb T F0 HF0) (hb1:F0.tr.began<1000000000) (hb2:F0.cl.began<1000000000) (hid1:∀ z∈(pollG F0.tr).2,0≤z∧z<64) (hid2:∀ z∈(pollG (clsAll { F0 with tr:=(pollG F0.tr).1 } (pollG F0.tr).2).cl).2,(0≤z∧z<64)∧(mapF F0 (z/16)).isSome=true) (hT0:Tab w0):LCalls Tryz.prog w0 18 #[.pointer (some ⟨lb,0,none⟩)] (HF0++H) (fun v H'=>∃ HF' XG,LifeH lb T (pollL F0).1 HF'∧OwnS 50 4 v (pollL F0).2.length ((pollL F0).2.flatMap gnC) XG∧H'=XG++(HF'++H)):=by
 refine L_enter (l:=[.pointer (some ⟨lb,0,none⟩)]) Tryz.func18 rfl Tryz.ntmps18 rfl rfl ?_
 refine W_sr (W_assign rfl rfl (W_nil (W_seq (W_sr (W_move rfl rfl ?_)))))
 refine W_x (X_ptrNil rfl rfl ty23) (fun _ h=>by cases h) rfl ?_
 refine W_nil (W_condF rfl rfl (W_skip (W_sr (W_assign rfl rfl (W_nil (W_seq (W_sr ?_)))))))
 cases hF0 with
 | @mk tb wb g1 g2 rb db M HT HW H1 H2 HR HD HM hT hO hW h1 o1 h2 o2 hR hU hD hM =>
 refine W_hsub (H':=(lb,.cells 134 15 (lfRow F0.n M tb wb g1 g2 rb db))::(HT++(HW++(H1++(H2++(HR++(HD++(HM.flatten++H)))))))) (by simp only [List.cons_append,List.append_assoc,List.nil_append]; first | exact hsubI | (repeat (first | with_reducible exact HSub.refl _ | refine HSub.cons zT ?_ | refine HSub.app zS ?_ | exact HSub.nil _ | exact HSub.refl _ | refine HSub.drop ?_ | refine HSub.dropS ?_))) ?_
 refine W_move rfl rfl (W_nilCheck rfl rfl (W_fieldAddr rfl fld134_4 zd rfl ?_))
 refine W_load (v:=.pointer (some ⟨g1,0,none⟩)) rfl ty33 rfl (Cell.own (b:=lb) zM (lf_tl (j:=2) hM.m4)) rfl ?_
 have htl:=told_len h1
 obtain ⟨ids1,eI1⟩:∃ ids1,ids1=(pollG F0.tr).2:=⟨_,rfl⟩
 have hil1:ids1.length≤64*F0.n:=by rw [eI1]; exact htl
 have o12:GrOk F0.n (pollG F0.tr).1:=o1.look.begin (by rw [lookG_beg]; exact hb1)
 have hn64:=o1.n
 refine W_call (.cons rfl .nil) Tryz.call69 rfl ((h1.poll o1 hb1 hT0 (H:=(lb,.cells 134 15 (lfRow F0.n M tb wb g1 g2 rb db))::(HT++(HW++(H2++(HR++(HD++(HM.flatten++H)))))))).hsub zH) ?_
 rintro v H' ⟨H12,XO1,h12,hO1,rfl⟩
 rw [← eI1] at hO1
 obtain ⟨ad1,cap1,rfl,hc1,hc2⟩:=hO1.shape
 have hrow1:∀ {H:Heap},(∀ p∈XO1,p∈H)→Holds w0 H ad1 (ids1.map (Value.int .i64)):=fun hs=>OwnS.toHolds hO1 hs
 obtain ⟨F1,eF1⟩:∃ F1,F1=({ F0 with tr:=(pollG F0.tr).1 }:Lf):=⟨_,rfl⟩
 have hF1:LifeH lb T F1 ((lb,.cells 134 15 (lfRow F0.n M tb wb g1 g2 rb db))::(HT++(HW++(H12++(H2++(HR++(HD++HM.flatten))))))):=by rw [eF1]; exact .mk (F:={ F0 with tr:=(pollG F0.tr).1 }) hT hO hW h12 o12 h2 o2 hR hU hD hM
 refine W_hsub (H':=XO1++(((lb,.cells 134 15 (lfRow F0.n M tb wb g1 g2 rb db))::(HT++(HW++(H12++(H2++(HR++(HD++HM.flatten)))))))++H)) (by simp only [List.cons_append,List.append_assoc,List.nil_append]; first | exact hsubI | (repeat (first | with_reducible exact HSub.refl _ | refine HSub.cons zT ?_ | refine HSub.app zS ?_ | exact HSub.nil _ | exact HSub.refl _ | refine HSub.drop ?_ | refine HSub.dropS ?_))) ?_
 generalize ((lb,.cells 134 15 (lfRow F0.n M tb wb g1 g2 rb db))::(HT++(HW++(H12++(H2++(HR++(HD++HM.flatten)))))))=HF1 at hF1 ⊢
 clear hT hO hW h1 o1 h2 o2 hR hU hD hM h12 o12
 refine W_len rfl ty63 rfl rfl ?_
 refine W_move rfl rfl (W_nil (W_block ?_))
 refine W_loopC (X:=(Nat × Lf × Heap)) [(0,_),(3,_),(16,_),(17,_)] (fun (z:(Nat × Lf × Heap))=>[(18,.int .i64 (z.1:Int))]) (fun _=>_) (fun (z:(Nat × Lf × Heap))=>XO1++(z.2.2++H)) (fun (z:(Nat × Lf × Heap))=>z.1≤ids1.length∧LifeH lb T z.2.1 z.2.2∧z.2.1=clsAll F1 (ids1.take z.1)) (fun (z:(Nat × Lf × Heap))=>ids1.length-z.1) (0,F1,HF1) ⟨Nat.zero_le _,hF1,rfl⟩ (sub_cons rfl (sub_cons rfl (sub_cons rfl (sub_cons rfl (sub_nil _))))) (sub_cons rfl (sub_nil _)) rfl (.refl _) ?_
 rintro ⟨i,F,HF⟩ ⟨hi,hF,eF⟩
 dsimp only at hi hF eF ⊢
 simp only [List.cons_append,List.nil_append]
 refine W_sr (W_bin rfl rfl b_lss rfl ?_)
 refine W_nil (W_seq ?_)
 refine W_condPS (p:=(i:Int)<(ids1.length:Int)) rfl (by simp) (fun q0=>?_) (fun q0=>?_)
 ·skip
  refine W_skip (W_seq (W_block (W_sr ?_)))
  obtain ⟨z,hz⟩:∃ z,ids1[i]?=some z:=⟨_,List.getElem?_eq_getElem zO⟩
  have hzr:=hid1 z (by rw [← eI1]; exact List.mem_of_getElem? hz)
  obtain ⟨zn,rfl⟩:∃ zn:Nat,z=(zn:Int):=⟨z.toNat,by omega⟩
  obtain ⟨qz,pz,rfl,hcz⟩:=(hrow1 (H:=XO1++(HF++H)) (fun p hp=>List.mem_append_left _ hp)).at (i:=i) (v:=.int .i64 (zn:Int)) (by rw [List.getElem?_map,hz]; rfl)
  refine W_indexAddr (j:=i) rfl rfl ty63 ty3 rfl zO rfl rfl ?_
  refine W_load (v:=.int .i64 (zn:Int)) rfl ty3 rfl (by rw [Nat.mul_one]; exact hcz) rfl ?_
  refine W_assign rfl rfl (W_nil ?_)
  cases hF with
  | @mk tb wb g1 g2 rb db M HT HW H1 H2 HR HD HM hT hO hW h1 o1 h2 o2 hR hU hD hM =>
  refine W_hsub (H':=XO1++((lb,.cells 134 15 (lfRow F.n M tb wb g1 g2 rb db))::(HT++(HW++(H1++(H2++(HR++(HD++(HM.flatten++H))))))))) (by simp only [List.cons_append,List.append_assoc,List.nil_append]; first | exact hsubI | (repeat (first | with_reducible exact HSub.refl _ | refine HSub.cons zT ?_ | refine HSub.app zS ?_ | exact HSub.nil _ | exact HSub.refl _ | refine HSub.drop ?_ | refine HSub.dropS ?_))) ?_
  refine W_anyC [(lb,.cells 134 15 (lfRow F.n M tb wb g1 g2 rb db))] zk ?_
  refine WC_take 0 rfl zK zK zK rfl rfl (X_move rfl) rfl ?_
  refine WC_take 1 rfl zK zK zK rfl rfl (X_nilCheck rfl) rfl ?_
  refine WC_take 2 rfl zK zK zK rfl rfl (X_fieldAddr rfl fld134_5 zd) rfl ?_
  refine WC_take 3 rfl zK zK zK rfl rfl (X_load (v:=.pointer (some ⟨g2,0,none⟩)) rfl ty33 rfl (Cell.own (b:=lb) zM (lf_tl (j:=3) hM.m4))) rfl ?_
  refine WC_take 4 rfl zK zK zK rfl rfl (X_move rfl) rfl ?_
  refine WC_take 5 rfl zK zK zK rfl rfl (X_move rfl) rfl ?_
  refine WC_take 6 rfl zK zK zK rfl rfl (X_nilCheck rfl) rfl ?_
  refine WC_take 7 rfl zK zK zK rfl rfl (X_fieldAddr rfl fld134_0 zd) rfl ?_
  refine WC_take 8 rfl zK zK zK rfl rfl (X_load (v:=.int .i64 ((F.n:Nat):Int)) rfl ty3 rfl (Cell.own (b:=lb) zM rfl)) rfl ?_
  refine WC_take 9 rfl zK zK zK rfl rfl (X_bin rfl rfl (b_rem (by have:=o2.n; omega) (m:=((zn%F.n:Nat):Int)) (tmNA zn F.n))) rfl ?_
  refine WC_take 10 rfl zK zK zK rfl rfl (X_move rfl) rfl ?_
  refine WC_one 11 zH zK rfl rfl ?_
  refine W_buildSlice (l:=[.int .i64 (zn:Int)]) ty63 ty3 (.cons rfl rfl rfl rfl rfl .nil) rfl rfl rfl rfl rfl rfl rfl (fun b33=>?_)
  refine W_nil ?_
  refine WC_goal ?_
  refine WC_one 12 zH zK rfl rfl ?_
  refine W_call (.cons rfl (.cons rfl (.cons rfl .nil))) Tryz.call70 rfl ((h2.call o2 (z:=zn) (fun HZ=>Holds.own (b:=b33) (List.mem_append_right _ List.mem_cons_self)) (cap:=1) (H:=(b33,.cells 3 1 [.int .i64 (zn:Int)])::(XO1++((lb,.cells 134 15 (lfRow F.n M tb wb g1 g2 rb db))::(HT++(HW++(H1++(HR++(HD++(HM.flatten++H)))))))))).hsub zH) ?_
  rintro v H' ⟨H22,h22,⟨m3,rfl⟩,rfl⟩
  refine W_nil ?_
  refine WC_goal ?_
  refine WC_done zH zK ?_
  refine W_blk (W_region ?_)
  have hF2:LifeH lb T { F with cl:=callG F.cl F.n zn } ((lb,.cells 134 15 (lfRow F.n M tb wb g1 g2 rb db))::(HT++(HW++(H1++(H22++(HR++(HD++HM.flatten))))))):=.mk (F:={ F with cl:=callG F.cl F.n zn }) hT hO hW h1 o1 h22 (o2.call _) hR hU hD hM
  refine W_hsub (H':=XO1++(((lb,.cells 134 15 (lfRow F.n M tb wb g1 g2 rb db))::(HT++(HW++(H1++(H22++(HR++(HD++HM.flatten)))))))++H)) (by simp only [List.cons_append,List.append_assoc,List.nil_append]; first | exact hsubI | (repeat (first | with_reducible exact HSub.refl _ | refine HSub.cons zT ?_ | refine HSub.app zS ?_ | exact HSub.nil _ | exact HSub.refl _ | refine HSub.drop ?_ | refine HSub.dropS ?_))) ?_
  generalize ((lb,.cells 134 15 (lfRow F.n M tb wb g1 g2 rb db))::(HT++(HW++(H1++(H22++(HR++(HD++HM.flatten)))))))=HF2 at hF2 ⊢
  refine W_bin rfl rfl (b_add (m:=((i+1:Nat):Int)) ((i64w zO).trans zO)) rfl ?_
  refine W_move rfl rfl (W_nil ?_)
  refine W_again (i+1,{ F with cl:=callG F.cl F.n zn },HF2) ⟨by show i+1≤ids1.length; omega,hF2,by show _=clsAll F1 (ids1.take (i+1)); rw [clsAll_at hz,← eF,Int.toNat_natCast]⟩ (by show ids1.length-(i+1)<ids1.length-i; omega) (sub_cons rfl (sub_cons rfl (sub_cons rfl (sub_cons rfl (sub_cons rfl (sub_nil _)))))) rfl zH
 ·skip
  refine W_exit rfl ?_
  refine W_seq (W_sr ?_)
  have ei1:i=ids1.length:=by omega
  subst ei1
  rw [List.take_length] at eF
  have hcb:F.cl.began<1000000000:=by rw [eF,(cls_keep F1 ids1).2.2,eF1]; exact hb2
  cases hF with
  | @mk tb wb g1 g2 rb db M HT HW H1 H2 HR HD HM hT hO hW h1 o1 h2 o2 hR hU hD hM =>
  refine W_hsub (H':=XO1++((lb,.cells 134 15 (lfRow F.n M tb wb g1 g2 rb db))::(HT++(HW++(H1++(H2++(HR++(HD++(HM.flatten++H))))))))) (by simp only [List.cons_append,List.append_assoc,List.nil_append]; first | exact hsubI | (repeat (first | with_reducible exact HSub.refl _ | refine HSub.cons zT ?_ | refine HSub.app zS ?_ | exact HSub.nil _ | exact HSub.refl _ | refine HSub.drop ?_ | refine HSub.dropS ?_))) ?_
  refine W_move rfl rfl (W_nilCheck rfl rfl (W_fieldAddr rfl fld134_5 zd rfl ?_))
  refine W_load (v:=.pointer (some ⟨g2,0,none⟩)) rfl ty33 rfl (Cell.own (b:=lb) zM (lf_tl (j:=3) hM.m4)) rfl ?_
  have htl2:=told_len h2
  obtain ⟨ids2,eI2⟩:∃ ids2,ids2=(pollG F.cl).2:=⟨_,rfl⟩
  have hil2:ids2.length≤64*F.n:=by rw [eI2]; exact htl2
  have o22:GrOk F.n (pollG F.cl).1:=o2.look.begin (by rw [lookG_beg]; exact hcb)
  have hn642:=o2.n
  have hms4:=hM.s4
  refine W_call (.cons rfl .nil) Tryz.call69 rfl ((h2.poll o2 hcb hT0 (H:=XO1++((lb,.cells 134 15 (lfRow F.n M tb wb g1 g2 rb db))::(HT++(HW++(H1++(HR++(HD++(HM.flatten++H))))))))).hsub zH) ?_
  rintro v H' ⟨H22,XO2,h22,hO2,rfl⟩
  rw [← eI2] at hO2
  obtain ⟨ad2,cap2,rfl,hc3,hc4⟩:=hO2.shape
  have hrow2:∀ {H:Heap},(∀ p∈XO2,p∈H)→Holds w0 H ad2 (ids2.map (Value.int .i64)):=fun hs=>OwnS.toHolds hO2 hs
  obtain ⟨F3,eF3⟩:∃ F3,F3=({ F with cl:=(pollG F.cl).1 }:Lf):=⟨_,rfl⟩
  have hF3:LifeH lb T F3 ((lb,.cells 134 15 (lfRow F.n M tb wb g1 g2 rb db))::(HT++(HW++(H1++(H22++(HR++(HD++HM.flatten))))))):=by rw [eF3]; exact .mk (F:={ F with cl:=(pollG F.cl).1 }) hT hO hW h1 o1 h22 o22 hR hU hD hM
  refine W_hsub (H':=XO2++(((lb,.cells 134 15 (lfRow F.n M tb wb g1 g2 rb db))::(HT++(HW++(H1++(H22++(HR++(HD++HM.flatten)))))))++H)) (by simp only [List.cons_append,List.append_assoc,List.nil_append]; first | exact hsubI | (repeat (first | with_reducible exact HSub.refl _ | refine HSub.cons zT ?_ | refine HSub.app zS ?_ | exact HSub.nil _ | exact HSub.refl _ | refine HSub.drop ?_ | refine HSub.dropS ?_))) ?_
  generalize ((lb,.cells 134 15 (lfRow F.n M tb wb g1 g2 rb db))::(HT++(HW++(H1++(H22++(HR++(HD++HM.flatten)))))))=HF3 at hF3 ⊢
  clear hT hO hW h1 o1 h2 o2 hR hU hD hM h22 o22 hrow1 hO1
  have hm3:F3.ms=F.ms:=by rw [eF3]
  have hzz:∀ z∈ids2,0≤z∧z<64:=fun z hz=>(hid2 z (by rw [eI2,eF,eF1] at hz; rw [eI1] at hz; exact hz)).1
  have hzm:∀ z∈ids2,(mapF F3 (z/16)).isSome=true:=fun z hz=>by
   have:=(hid2 z (by rw [eI2,eF,eF1] at hz; rw [eI1] at hz; exact hz)).2
   unfold mapF at this ⊢
   rw [hm3,eF,(cls_keep F1 ids1).2.1,eF1]; exact this
  refine W_len rfl ty63 rfl rfl ?_
  refine W_move rfl rfl (W_nil (W_block ?_))
  refine W_loopC (X:=(Nat × Lf × Heap × Value × Heap × List Gn)) [(0,_),(40,_),(41,_)] (fun (z:(Nat × Lf × Heap × Value × Heap × List Gn))=>[(42,.int .i64 (z.1:Int)),(3,z.2.2.2.1)]) (fun _=>_) (fun (z:(Nat × Lf × Heap × Value × Heap × List Gn))=>XO2++(z.2.2.2.2.1++(z.2.2.1++H))) (fun (z:(Nat × Lf × Heap × Value × Heap × List Gn))=>z.1≤ids2.length∧LifeH lb T z.2.1 z.2.2.1∧(z.2.1,z.2.2.2.2.2)=frees F3 (ids2.take z.1)∧OwnS 50 4 z.2.2.2.1 z.2.2.2.2.2.length (z.2.2.2.2.2.flatMap gnC) z.2.2.2.2.1) (fun (z:(Nat × Lf × Heap × Value × Heap × List Gn))=>ids2.length-z.1) (0,F3,HF3,.slice none 0 0,[],[]) ⟨Nat.zero_le _,hF3,rfl,.nil⟩ (sub_cons rfl (sub_cons rfl (sub_cons rfl (sub_nil _)))) (sub_cons rfl (sub_cons rfl (sub_nil _))) rfl (show HSub _ (XO2++([]++(HF3++H))) from .refl _) ?_
  rintro ⟨j,Fj,HFj,xv,XB,gs⟩ ⟨hj,hFj,eFj,hOj⟩
  dsimp only at hj hFj eFj hOj ⊢
  simp only [List.cons_append,List.nil_append]
  refine W_sr (W_bin rfl rfl b_lss rfl ?_)
  refine W_nil (W_seq ?_)
  refine W_condPS (p:=(j:Int)<(ids2.length:Int)) rfl (by simp) (fun q1=>?_) (fun q1=>?_)
  ·skip
   refine W_skip (W_seq (W_block (W_sr ?_)))
   obtain ⟨z,hz⟩:∃ z,ids2[j]?=some z:=⟨_,List.getElem?_eq_getElem zO⟩
   have hzr:=hzz z (List.mem_of_getElem? hz)
   have hzs:=hzm z (List.mem_of_getElem? hz)
   obtain ⟨zn,rfl⟩:∃ zn:Nat,z=(zn:Int):=⟨z.toNat,by omega⟩
   obtain ⟨f1,f2,f3⟩:=frees_map (F:=F3) (l:=ids2) (by rw [hm3]; exact hms4) hzz (((zn/16:Nat):Int)) j
   rw [← eFj] at f1 f2 f3
   have hgl:gs.length≤j:=f3
   rw [show ((zn:Nat):Int)/16=((zn/16:Nat):Int) by omega] at hzs
   obtain ⟨⟨x4,b4⟩,hm4⟩:=Option.isSome_iff_exists.1 (f1.trans hzs)
   obtain ⟨qz,pz,rfl,hcz⟩:=(hrow2 (H:=XO2++(XB++(HFj++H))) (fun p hp=>List.mem_append_left _ hp)).at (i:=j) (v:=.int .i64 (zn:Int)) (by rw [List.getElem?_map,hz]; rfl)
   refine W_indexAddr (j:=j) rfl rfl ty63 ty3 rfl zO rfl rfl ?_
   refine W_load (v:=.int .i64 (zn:Int)) rfl ty3 rfl (by rw [Nat.mul_one]; exact hcz) rfl ?_
   refine W_assign rfl rfl (W_nil (W_region (W_move rfl rfl (W_move rfl rfl (W_move rfl rfl ?_)))))
   have hfl:=free_len Fj zn
   refine W_call (.cons rfl (.cons rfl .nil)) Tryz.call71 rfl ((hFj.free_ (z:=zn) zO hm4 (H:=XO2++(XB++H))).hsub zH) ?_
   rintro v H' ⟨HF4,XG,hF4,hG,rfl⟩
   obtain ⟨ad5,cap5,rfl,hh5⟩:∃ ad5 cap5,v=.slice ad5 (freeF Fj zn).2.length cap5∧Holds w0 (XG++(HF4++(XO2++(XB++H)))) ad5 ((freeF Fj zn).2.flatMap gnC):=by
    obtain ⟨ad5,cap5,e,h3,h4,h5⟩:=Holds.of_own (w0:=w0) (H:=XG++(HF4++(XO2++(XB++H)))) hG (fun p hp=>List.mem_append_left _ hp)
    exact ⟨ad5,cap5,e,h5⟩
   refine W_append (news:=(freeF Fj zn).2.flatMap gnC) (m:=(freeF Fj zn).2.length) (HB:=XB) (H0:=XG++(HF4++(XO2++H))) rfl rfl ty47 ty50 rfl (by decide) hOj (rows_len gnC_len _) hh5 (by rw [List.all_flatMap,List.all_eq_true]; exact fun t _=>rfl) (by simp only [maxLen]; omega) (by omega) zH rfl (fun xv' XB' hO'=>?_)
   refine W_assign rfl rfl (W_nil (W_blk (W_region (W_bin rfl rfl (b_add (m:=((j+1:Nat):Int)) ((i64w zO).trans zO)) rfl ?_))))
   refine W_move rfl rfl (W_nil ?_)
   refine W_again (j+1,(freeF Fj zn).1,HF4,xv',XB',gs++(freeF Fj zn).2) ⟨by show j+1≤ids2.length; omega,hF4,by show _=frees F3 (ids2.take (j+1)); rw [frees_at hz,← eFj,Int.toNat_natCast],by show OwnS 50 4 xv' (gs++(freeF Fj zn).2).length ((gs++(freeF Fj zn).2).flatMap gnC) XB'; rw [List.length_append,List.flatMap_append]; exact hO'⟩ (by show ids2.length-(j+1)<ids2.length-j; omega) (sub_cons rfl (sub_cons rfl (sub_cons rfl (sub_cons rfl (sub_cons rfl (sub_nil _)))))) rfl zH
  ·skip
   refine W_exit rfl ?_
   refine W_seq (W_sr ?_)
   have ej:j=ids2.length:=by omega
   obtain ⟨f1,f2,f3⟩:=frees_map (F:=F3) (l:=ids2) (by rw [hm3]; exact hms4) hzz 0 j
   rw [← eFj] at f1 f2 f3
   rw [ej,List.take_length] at eFj
   have hgl:gs.length≤4096:=by
    have h1:gs.length≤j:=f3
    omega
   cases hFj with
   | @mk tb wb g1 g2 rb db M HT HW H1 H2 HR HD HM hT hO hW h1 o1 h2 o2 hR hU hD hM =>
   refine W_hsub (H':=XB++((lb,.cells 134 15 (lfRow Fj.n M tb wb g1 g2 rb db))::(HT++(HW++(H1++(H2++(HR++(HD++(HM.flatten++H))))))))) (by simp only [List.cons_append,List.append_assoc,List.nil_append]; first | exact hsubI | (repeat (first | with_reducible exact HSub.refl _ | refine HSub.cons zT ?_ | refine HSub.app zS ?_ | exact HSub.nil _ | exact HSub.refl _ | refine HSub.drop ?_ | refine HSub.dropS ?_))) ?_
   refine W_move rfl rfl (W_nilCheck rfl rfl (W_fieldAddr rfl fld134_1 zd rfl ?_))
   refine W_loadB (vs:=M.flatMap mcC) rfl ty130 rfl (b:=lb) zM (by rw [Nat.ble_eq,lf_len,hM.m4]; decide) (by show ((lfRow Fj.n M tb wb g1 g2 rb db).drop 1).take 8=_; exact lf_all hM.m4) rfl ?_
   refine W_move rfl rfl (W_nil (W_block ?_))
   refine W_loopC (X:=(Nat × List (Option Nat × Bool) × List (Option (Xm × Bool)) × List Heap × Value × Heap × List Gn)) [(0,_),(55,_)] (fun (z:(Nat × List (Option Nat × Bool) × List (Option (Xm × Bool)) × List Heap × Value × Heap × List Gn))=>[(56,.int .i64 (z.1:Int)),(3,z.2.2.2.2.1)]) (fun _=>_) (fun (z:(Nat × List (Option Nat × Bool) × List (Option (Xm × Bool)) × List Heap × Value × Heap × List Gn))=>z.2.2.2.2.2.1++((lb,.cells 134 15 (lfRow Fj.n z.2.1 tb wb g1 g2 rb db))::(HT++(HW++(H1++(H2++(HR++(HD++(z.2.2.2.1.flatten++H))))))))) (fun (z:(Nat × List (Option Nat × Bool) × List (Option (Xm × Bool)) × List Heap × Value × Heap × List Gn))=>z.1≤4∧MsOk T z.2.1 z.2.2.1 z.2.2.2.1∧(∀ q:Nat,z.1≤q→z.2.1[q]?=M[q]?∧z.2.2.2.1[q]?=HM[q]?)∧(z.2.2.1,z.2.2.2.2.2.2)=goneN Fj.ms gs z.1∧OwnS 50 4 z.2.2.2.2.1 z.2.2.2.2.2.2.length (z.2.2.2.2.2.2.flatMap gnC) z.2.2.2.2.2.1∧z.2.2.2.2.2.2.length≤4096+z.1) (fun (z:(Nat × List (Option Nat × Bool) × List (Option (Xm × Bool)) × List Heap × Value × Heap × List Gn))=>4-z.1) (0,M,Fj.ms,HM,xv,XB,gs) ⟨Nat.zero_le _,hM,fun q _=>⟨rfl,rfl⟩,rfl,hOj,hgl⟩ (sub_cons rfl (sub_cons rfl (sub_nil _))) (sub_cons rfl (sub_cons rfl (sub_nil _))) rfl (.refl _) ?_
   rintro ⟨k,M1,ms1,HM1,yv,YB,ys⟩ ⟨hk,hM1,hq1,eg,hOy,hyl⟩
   dsimp only at hk hM1 hq1 eg hOy hyl ⊢
   simp only [List.cons_append,List.nil_append]
   refine W_sr (W_bin rfl rfl b_lss rfl ?_)
   refine W_nil (W_seq ?_)
   refine W_condPS (p:=k<4) rfl (by rw [decide_eq_true_eq]; omega) (fun q2=>?_) (fun q2=>?_)
   ·skip
    refine W_skip (W_seq (W_block (W_sr ?_)))
    obtain ⟨c,hc⟩:∃ c,M[k]?=some c:=⟨_,List.getElem?_eq_getElem (by rw [hM.m4]; omega)⟩
    obtain ⟨y,hy⟩:∃ y,Fj.ms[k]?=some y:=⟨_,List.getElem?_eq_getElem (by rw [hM.s4]; omega)⟩
    obtain ⟨X,hX0⟩:∃ X,HM[k]?=some X:=⟨_,List.getElem?_eq_getElem (by rw [hM.h4]; omega)⟩
    have hmp:=hM.at_ k c y X hc hy hX0
    have hX1:HM1[k]?=some X:=by rw [(hq1 k (Nat.le_refl _)).2]; exact hX0
    have hc1':M1[k]?=some c:=by rw [(hq1 k (Nat.le_refl _)).1]; exact hc
    refine W_move rfl rfl (W_indexAg (vs:=mcC c) (j:=k) rfl rfl ty130 ty129 rfl rfl zO ((rows_part (o:=0) (m:=2) mcC_len hc zd).trans rfl) rfl ?_)
    refine W_alloc (l:=mcC (none,false)) ty129 rfl rfl (fun b9=>?_)
    refine W_assign rfl rfl ?_
    refine W_storeA (l':=mcC c) rfl rfl ty129 rfl rfl (b:=b9) zM (by exact Nat.le_refl 2) rfl zU ?_
    refine W_nil (W_sr ?_)
    obtain ⟨ca,cb⟩:=c
    rcases (show (ca=none∧cb=false∧y=none)∨(∃ mb x,ca=some mb∧cb=false∧y=some (x,false)∧XmH mb T x X)∨(∃ mb x,ca=some mb∧cb=true∧y=some (x,true)∧XmH mb T x X) by
     cases hmp with
     | none=>exact .inl ⟨rfl,rfl,rfl⟩
     | @some mb x b X h =>
      cases cb with
      | false=>exact .inr (.inl ⟨mb,x,rfl,rfl,rfl,h⟩)
      | true=>exact .inr (.inr ⟨mb,x,rfl,rfl,rfl,h⟩)) with ⟨rfl,rfl,rfl⟩ | ⟨mb,x,rfl,rfl,rfl,hx⟩ | ⟨mb,x,rfl,rfl,rfl,hx⟩
    ·skip
     refine W_fieldAddr rfl fld129_1 zd rfl ?_
     refine W_load (v:=.bool false) rfl ty4 rfl (Cell.own (b:=b9) zM rfl) rfl ?_
     refine W_move rfl rfl (W_gno rfl rfl rfl ?_)
     refine W_gno rfl rfl rfl ?_
     refine W_gno rfl rfl rfl ?_
     refine W_gno rfl rfl rfl ?_
     first | refine W_pickt rfl rfl rfl ?_ | refine W_pickf rfl rfl rfl ?_
     refine W_nil (W_condF rfl rfl (W_skip (W_blk (W_region (W_bin rfl rfl (b_add (m:=((k+1:Nat):Int)) ((i64w zO).trans zO)) rfl ?_)))))
     refine W_move rfl rfl (W_nil ?_)
     refine W_again (k+1,M1,ms1,HM1,yv,YB,ys) ⟨by show k+1≤4; omega,hM1,fun q hq=>hq1 q (by have:k+1≤q:=hq; omega),by show _=goneS Fj.ms (goneN Fj.ms gs k) k; unfold goneS; rw [hy,← eg]; try (dsimp only; rw [if_neg (by exact_mod_cast q3)]),hOy,by show ys.length≤4096+(k+1); omega⟩ (by show 4-(k+1)<4-k; omega) (sub_cons rfl (sub_cons rfl (sub_cons rfl (sub_cons rfl (sub_nil _))))) rfl zH
    ·skip
     refine W_fieldAddr rfl fld129_1 zd rfl ?_
     refine W_load (v:=.bool false) rfl ty4 rfl (Cell.own (b:=b9) zM rfl) rfl ?_
     refine W_move rfl rfl (W_gno rfl rfl rfl ?_)
     refine W_gno rfl rfl rfl ?_
     refine W_gno rfl rfl rfl ?_
     refine W_gno rfl rfl rfl ?_
     first | refine W_pickt rfl rfl rfl ?_ | refine W_pickf rfl rfl rfl ?_
     refine W_nil (W_condF rfl rfl (W_skip (W_blk (W_region (W_bin rfl rfl (b_add (m:=((k+1:Nat):Int)) ((i64w zO).trans zO)) rfl ?_)))))
     refine W_move rfl rfl (W_nil ?_)
     refine W_again (k+1,M1,ms1,HM1,yv,YB,ys) ⟨by show k+1≤4; omega,hM1,fun q hq=>hq1 q (by have:k+1≤q:=hq; omega),by show _=goneS Fj.ms (goneN Fj.ms gs k) k; unfold goneS; rw [hy,← eg]; try (dsimp only; rw [if_neg (by exact_mod_cast q3)]),hOy,by show ys.length≤4096+(k+1); omega⟩ (by show 4-(k+1)<4-k; omega) (sub_cons rfl (sub_cons rfl (sub_cons rfl (sub_cons rfl (sub_nil _))))) rfl zH
    ·skip
     refine W_fieldAddr rfl fld129_1 zd rfl ?_
     refine W_load (v:=.bool true) rfl ty4 rfl (Cell.own (b:=b9) zM rfl) rfl ?_
     refine W_move rfl rfl (W_gyes rfl rfl (W_fieldAddr rfl fld129_0 zd rfl ?_))
     refine W_gyes rfl rfl (W_load (v:=.pointer (some ⟨mb,0,none⟩)) rfl ty65 rfl (Cell.own (b:=b9) zM rfl) rfl ?_)
     refine W_gyes rfl rfl ?_
     refine W_callq (.cons rfl .nil) Tryz.call43 rfl (hx.held (fun p hp=>List.mem_cons_of_mem _ (List.mem_append_right _ (List.mem_cons_of_mem _ (List.mem_append_right _ (List.mem_append_right _ (List.mem_append_right _ (List.mem_append_right _ (List.mem_append_right _ (List.mem_append_right _ (List.mem_append_left _ (memFlatten hX1 hp)))))))))))) ?_
     refine W_gyes rfl rfl (W_bin rfl rfl b_eql rfl ?_)
     first | refine W_pickt rfl rfl rfl ?_ | refine W_pickf rfl rfl rfl ?_
     refine W_nil ?_
     refine W_condS rfl (fun q3=>?_) (fun q3=>?_)
     ·simp only [cond_true,cond_false,Bool.and_eq_true,Bool.or_eq_true,Bool.and_eq_false_iff,Bool.or_eq_false_iff,decide_eq_true_eq,decide_eq_false_iff_not,Bool.not_eq_true',Bool.not_eq_false',ne_eq,Decidable.not_not] at q3
      refine W_sr (W_move rfl rfl (W_move rfl rfl (W_build (l:=mcC (none,false)) ty129 pl129 .nil rfl rfl rfl ?_)))
      refine W_nilCheck rfl rfl (W_fieldAddr rfl fld134_1 zd rfl ?_)
      refine W_indexAddrA (j:=k) rfl rfl ty130 ty129 (by first | rfl | omega) (by first | decide | omega | simp) rfl rfl ?_
      refine W_storeA (l':=lfRow Fj.n (M1.set k (none,false)) tb wb g1 g2 rb db) rfl rfl ty129 rfl rfl (b:=lb) zM (by rw [lf_len,hM1.m4]; omega) (lf_spl (c':=(none,false)) (by rw [hM1.m4]; omega)) zU ?_
      refine W_nil (W_region (W_move rfl rfl (W_move rfl rfl (W_build (l:=gnC ⟨(k:Int),0,0,true⟩) ty50 pl50 (.cons rfl rfl rfl rfl rfl (.cons rfl rfl rfl rfl rfl .nil)) rfl rfl rfl ?_))))
      refine W_buildSlice (l:=gnC ⟨(k:Int),0,0,true⟩) ty47 ty50 (.cons rfl rfl rfl rfl rfl .nil) rfl rfl rfl rfl rfl rfl rfl (fun b77=>?_)
      refine W_hsub (H':=(b77,.cells 50 4 (gnC ⟨(k:Int),0,0,true⟩))::(b9,.cells 129 2 (mcC (some mb,true)))::(YB++((lb,.cells 134 15 (lfRow Fj.n (M1.set k (none,false)) tb wb g1 g2 rb db))::(HT++(HW++(H1++(H2++(HR++(HD++((HM1.set k []).flatten++H)))))))))) (.cons (.here _) (.cons (.here _) (.app (.here _) (.cons (.here _) (.app (.here _) (.app (.here _) (.app (.here _) (.app (.here _) (.app (.here _) (.app (.here _) ((flattenOut hX1).trans (.dropS (.refl _))))))))))))) ?_
      refine W_append (news:=gnC ⟨(k:Int),0,0,true⟩) (m:=1) (HB:=YB) (H0:=(b77,.cells 50 4 (gnC ⟨(k:Int),0,0,true⟩))::(b9,.cells 129 2 (mcC (some mb,true)))::((lb,.cells 134 15 (lfRow Fj.n (M1.set k (none,false)) tb wb g1 g2 rb db))::(HT++(HW++(H1++(H2++(HR++(HD++((HM1.set k []).flatten++H))))))))) rfl rfl ty47 ty50 rfl (by decide) hOy rfl (Holds.own (b:=b77) zM) rfl (by simp only [maxLen]; omega) (by omega) zH rfl (fun yv' YB' hO'=>?_)
      refine W_assign rfl rfl (W_nil (W_blk (W_region (W_bin rfl rfl (b_add (m:=((k+1:Nat):Int)) ((i64w zO).trans zO)) rfl ?_))))
      refine W_move rfl rfl (W_nil ?_)
      refine W_again (k+1,M1.set k (none,false),ms1.set k none,HM1.set k [],yv',YB',ys++[⟨(k:Int),0,0,true⟩]) ⟨by show k+1≤4; omega,hM1.set .none,fun q hq=>⟨by rw [List.getElem?_set_ne (show k≠q by have:k+1≤q:=hq; omega)]; exact (hq1 q (by have:k+1≤q:=hq; omega)).1,by rw [List.getElem?_set_ne (show k≠q by have:k+1≤q:=hq; omega)]; exact (hq1 q (by have:k+1≤q:=hq; omega)).2⟩,by show _=goneS Fj.ms (goneN Fj.ms gs k) k; unfold goneS; rw [hy,← eg]; dsimp only; rw [if_pos (by exact_mod_cast q3)],by show OwnS 50 4 yv' (ys++[_]).length ((ys++[_]).flatMap gnC) YB'; rw [List.length_append,List.flatMap_append]; exact hO',by show (ys++[_]).length≤4096+(k+1); rw [List.length_append,List.length_singleton]; omega⟩ (by show 4-(k+1)<4-k; omega) (sub_cons rfl (sub_cons rfl (sub_cons rfl (sub_cons rfl (sub_nil _))))) rfl zH
     ·simp only [cond_true,cond_false,Bool.and_eq_true,Bool.or_eq_true,Bool.and_eq_false_iff,Bool.or_eq_false_iff,decide_eq_true_eq,decide_eq_false_iff_not,Bool.not_eq_true',Bool.not_eq_false',ne_eq,Decidable.not_not] at q3
      refine W_skip (W_blk (W_region (W_bin rfl rfl (b_add (m:=((k+1:Nat):Int)) ((i64w zO).trans zO)) rfl ?_)))
      refine W_move rfl rfl (W_nil ?_)
      refine W_again (k+1,M1,ms1,HM1,yv,YB,ys) ⟨by show k+1≤4; omega,hM1,fun q hq=>hq1 q (by have:k+1≤q:=hq; omega),by show _=goneS Fj.ms (goneN Fj.ms gs k) k; unfold goneS; rw [hy,← eg]; try (dsimp only; rw [if_neg (by exact_mod_cast q3)]),hOy,by show ys.length≤4096+(k+1); omega⟩ (by show 4-(k+1)<4-k; omega) (sub_cons rfl (sub_cons rfl (sub_cons rfl (sub_cons rfl (sub_nil _))))) rfl zH
   ·skip
    refine W_exit rfl ?_
    refine W_sr (W_move rfl rfl (W_assign rfl rfl (W_nil (W_ret1m (H2:=YB++((lb,.cells 134 15 (lfRow Fj.n M1 tb wb g1 g2 rb db))::(HT++(HW++(H1++(H2++(HR++(HD++(HM1.flatten++H))))))))) Tryz.results18 rfl (.nil _) zH ?_))))
    have ek:k=4:=by omega
    subst ek
    have eP:pollL F0=({ Fj with ms:=ms1 },ys):=by
     unfold pollL
     dsimp only
     rw [← eI1,← eF1,← eF,← eI2,← eF3,← eFj]
     dsimp only
     rw [← eg]
    rw [eP]
    exact ⟨_,YB,.mk (F:={ Fj with ms:=ms1 }) hT hO hW h1 o1 h2 o2 hR hU hD hM1,hOy,by simp only [List.cons_append,List.append_assoc,List.nil_append]⟩
end Go.Proofs.YtincjohoncljoaaGreatDoor
namespace Go.Proofs.YtincjohoncljoaaGreatDoor
open Go Go.Sl
attribute [local irreducible] W
open Go.Proofs
theorem mkeys_iter {w0:World} {H:Heap} {lp b1 db cl:Nat} {E:List Dye} (hok:MapOk (E.map Dye.ent) cl) (J:List Int→Heap→Prop)
  (hround:∀ ks z Hi (HZ:Heap),ks.length<E.length→J ks Hi→RoundC Tryz.prog w0 lp #[.int .i64 z] (HZ++Hi) (fun v H'=>∃ Hi',HSub H' (HZ++Hi')∧v=.bool true∧J (ks++[z]) Hi')) (hJ:J [] H) :
  LCalls Tryz.prog w0 175 #[.func (.yield lp) #[] #[],.pointer (some ⟨b1,0,none⟩)] ((b1,.cells 132 1 [.map (some db)])::(db,.obj (mapO (Value.int .i64) ((E).map Dye.ent) cl))::H) (fun _ H'=>∃ (Hi':Heap) (ks:List Int),HSub H' ((b1,.cells 132 1 [.map (some db)])::(db,.obj (mapO (Value.int .i64) ((E).map Dye.ent) cl))::Hi')∧ks.Perm (E.map Dye.key)∧J ks Hi'):=by
 refine L_enter (l:=[.func (.yield lp) #[] #[],.pointer (some ⟨b1,0,none⟩)]) Tryz.func175 rfl Tryz.ntmps175 rfl rfl ?_
 refine W_sr (W_load (v:=.map (some db)) rfl ty132 rfl (Cell.own (b:=b1) zM rfl) rfl ?_)
 refine W_range (kf:=(Value.int .i64)) (l:=E.map Dye.ent) (cl:=cl) rfl ty132 zM rfl (fun r=>?_)
 refine W_nil (W_block ?_)
 refine W_loopC (X:=(Ents Int × Heap)) [(0,_),(5,_)] (fun (x:(Ents Int × Heap))=>[]) (fun _=>_) (fun (x:(Ents Int × Heap))=>(r,.obj (iterO db cl (x.1.map (·.2.2)) cl))::(b1,.cells 132 1 [.map (some db)])::(db,.obj (mapO (Value.int .i64) ((E).map Dye.ent) cl))::x.2) (fun (x:(Ents Int × Heap))=>(x.1.map (·.2.2)).Nodup∧(∀ p∈x.1,p∈E.map Dye.ent)∧J (x.1.map (·.1)) x.2) (fun (x:(Ents Int × Heap))=>E.length-x.1.length) ([],H) ⟨.nil,(fun p hp=>(by cases hp)),hJ⟩ (sub_cons rfl (sub_cons rfl (sub_nil _))) (sub_nil _) rfl (HSub.refl _) ?_
 rintro ⟨vs,Hi⟩ ⟨hnd,hin,hJi⟩
 dsimp only at hnd hin hJi ⊢
 simp only [List.cons_append,List.nil_append]
 refine W_sr ?_
 refine W_next (kf:=(Value.int .i64)) (l:=E.map Dye.ent) (cl:=cl) (b:=db) (r:=r) (since:=cl) (c0:=cl) (sl:=vs.map (·.2.2)) (HN:=fun p=>(r,.obj (iterO db cl (vs.map (·.2.2)++[p.2.2]) cl))::(b1,.cells 132 1 [.map (some db)])::(db,.obj (mapO (Value.int .i64) ((E).map Dye.ent) cl))::Hi) rfl zM zM hok.lt (Nat.le_refl _) (fun p=>.head _) rfl (fun hall=>?_) (fun p hp hnp=>?_)
 ·skip
  refine W_extract rfl rfl rfl (W_nil (W_seq (W_condF rfl rfl (W_exit rfl ?_))))
  refine W_end0m Tryz.results175 (.nil _) (.refl _) ?_
  have hpm:=visit_perm hok hnd hin hall
  exact ⟨Hi,vs.map (·.1),.drop (.refl _),by have:=hpm.map (·.1); rwa [List.map_map] at this,hJi⟩
 ·skip
  refine W_extract rfl rfl rfl (W_nil (W_seq (W_condT rfl rfl (W_skip (W_block (W_sr (W_entry (kf:=(Value.int .i64)) (l:=E.map Dye.ent) (cl:=cl) (b:=db) (r:=r) (since:=cl) (sl:=vs.map (·.2.2)) (p:=p) rfl zM zM hp hok rfl ?_)))))))
  refine W_extract rfl rfl rfl (W_assign rfl rfl (W_nil (W_sr (W_move rfl rfl (W_move rfl rfl ?_)))))
  have hvl:=visit_lt hnd hin hp hnp
  rw [List.length_map] at hvl
  refine W_yield rfl (.cons rfl .nil) rfl (hround (vs.map (·.1)) p.1 Hi [(r,.obj (iterO db cl (vs.map (·.2.2)++[p.2.2]) cl)),(b1,.cells 132 1 [.map (some db)]),(db,.obj (mapO (Value.int .i64) ((E).map Dye.ent) cl))] (by rw [List.length_map]; exact hvl) hJi) ?_
  rintro v H' ⟨Hi',hsub,rfl,hJ'⟩
  refine W_hsub hsub ?_
  rw [show [(r,.obj (iterO db cl (vs.map (·.2.2)++[p.2.2]) cl)),(b1,.cells 132 1 [.map (some db)]),(db,.obj (mapO (Value.int .i64) ((E).map Dye.ent) cl))]++Hi'=(r,.obj (iterO db cl (vs.map (·.2.2)++[p.2.2]) cl))::(b1,.cells 132 1 [.map (some db)])::(db,.obj (mapO (Value.int .i64) ((E).map Dye.ent) cl))::Hi' from rfl]
  refine W_not rfl rfl ?_
  refine W_nil (W_condF rfl rfl (W_skip (W_blk ?_)))
  refine W_again (vs++[p],Hi') ⟨by show ((vs++[p]).map (·.2.2)).Nodup; rw [List.map_append]; exact List.nodup_append.2 ⟨hnd,by simp,fun x hx y hy e=>hnp (by obtain rfl:y=p.2.2:=(by simpa using hy); exact e ▸ hx)⟩,fun q hq=>(List.mem_append.1 hq).elim (hin q) (fun h=>by obtain rfl:q=p:=(by simpa using h); exact hp),by show J ((vs++[p]).map (·.1)) Hi'; rw [List.map_append]; exact hJ'⟩ (by show E.length-(vs++[p]).length<E.length-vs.length; rw [List.length_append,List.length_singleton]; omega) (sub_cons rfl (sub_cons rfl (sub_nil _))) rfl (by simp only [List.map_append,List.map_cons,List.map_nil]; exact .refl _)
theorem appSeq_L {w0:World} {H:Heap} {b1 db cl:Nat} {E:List Dye} (hok:MapOk (E.map Dye.ent) cl) (hEl:E.length≤1000) :LCalls Tryz.prog w0 261 #[.slice none 0 0,.func (.func 175) #[] #[.pointer (some ⟨b1,0,none⟩)]] ((b1,.cells 132 1 [.map (some db)])::(db,.obj (mapO (Value.int .i64) ((E).map Dye.ent) cl))::H) (fun v H'=>∃ (ks:List Int) (XB:Heap),ks.Perm (E.map Dye.key)∧OwnS 3 1 v ks.length (ks.map (Value.int .i64)) XB∧H'=XB++((b1,.cells 132 1 [.map (some db)])::(db,.obj (mapO (Value.int .i64) ((E).map Dye.ent) cl))::H)):=by
 refine L_enter (l:=[.slice none 0 0,.func (.func 175) #[] #[.pointer (some ⟨b1,0,none⟩)]]) Tryz.func261 rfl Tryz.ntmps261 rfl rfl ?_
 refine W_sr ?_
 refine W_box (l:=[.slice none 0 0]) rfl rfl rfl (fun b2=>?_)
 refine W_assign rfl rfl (W_nil (W_seq (W_sr (W_move rfl rfl (W_nil (W_block (W_rangeFunc rfl Tryz.call175 ?_)))))))
 intro lp D r hst hpd hps hasg hbody hA
 have hr:=loop_ready hst hpd
 show LCalls _ _ _ #[_,_] _ _
 refine ((mkeys_iter (b1:=b1) (H:=(lp,.obj (.loop r))::(D,.obj (.deferred (some [])))::(b2,.cells 63 1 [.slice none 0 0])::H) hok (fun ks Hi=>∃ xv XB,OwnS 3 1 xv ks.length (ks.map (Value.int .i64)) XB∧Hi=(lp,.obj (.loop r))::(D,.obj (.deferred (some [])))::(b2,.cells 63 1 [xv])::(XB++H)) ?_ ⟨_,[],.nil,rfl⟩).hsub zH).mono ?_
 ·intro ks z Hi HZ hkl hJ
  obtain ⟨xv,XB,hX,rfl⟩:=hJ
  refine round_intro hst hpd hA hps rfl hasg rfl rfl rfl zT ?_
  refine W_region (W_assign rfl rfl (W_nil (W_begin hst hpd zT hbody ?_)))
  refine W_block (W_region (W_load (v:=xv) rfl ty63 rfl (Cell.own (b:=b2) zM rfl) rfl ?_))
  refine W_move rfl rfl ?_
  refine W_buildSlice (l:=[.int .i64 z]) ty63 ty3 (.cons rfl rfl rfl rfl rfl .nil) rfl rfl rfl rfl rfl rfl rfl (fun b10=>?_)
  refine W_append (news:=[.int .i64 z]) (m:=1) (HB:=XB) (H0:=(b10,.cells 3 1 [.int .i64 z])::(lp,.obj (.loop (Loop.at r .busy none)))::(HZ++((D,.obj (.deferred (some [])))::(b2,.cells 63 1 [xv])::H))) rfl rfl ty63 ty3 rfl (by decide) hX rfl (Holds.own List.mem_cons_self) rfl (by simp only [maxLen]; omega) (by omega) zH rfl (fun v' HB' hO'=>?_)
  refine W_store (l':=[v']) rfl rfl ty63 (by obtain ⟨a0,c0',e0,_⟩:=hO'.shape; rw [e0]; rfl) rfl (b:=b2) zM rfl rfl zU ?_
  refine W_nil (W_blk (W_endround zT ?_))
  rw [hr]
  exact ⟨(lp,.obj (.loop r))::(D,.obj (.deferred (some [])))::(b2,.cells 63 1 [v'])::(HB'++H),zH,rfl,v',HB',by rw [List.length_append,List.map_append]; exact hO',rfl⟩
 ·intro _ H' hp
  obtain ⟨Hi',ks,hs,hpm,xv,XB,hX,rfl⟩:=hp
  refine ⟨.ready,none,(b1,.cells 132 1 [.map (some db)])::(db,.obj (mapO (Value.int .i64) ((E).map Dye.ent) cl))::(D,.obj (.deferred (some [])))::(b2,.cells 63 1 [xv])::(XB++H),by rw [hr]; exact hs.trans zH,by decide,?_⟩
  show W _ _ _ _ _ _ _ _ _
  refine W_blk (W_sr (W_load (v:=xv) rfl ty63 rfl (Cell.own (b:=b2) zM rfl) rfl ?_))
  refine W_assign rfl rfl (W_nil (W_ret1m (H2:=XB++((b1,.cells 132 1 [.map (some db)])::(db,.obj (mapO (Value.int .i64) ((E).map Dye.ent) cl))::H)) Tryz.results261 rfl (.cons zT (.nil _)) zH ?_))
  exact ⟨ks,XB,hpm,hX,rfl⟩
theorem collect_L {w0:World} {H:Heap} {b1 db cl:Nat} {E:List Dye} (hok:MapOk (E.map Dye.ent) cl) (hEl:E.length≤1000) :LCalls Tryz.prog w0 173 #[.func (.func 175) #[] #[.pointer (some ⟨b1,0,none⟩)]] ((b1,.cells 132 1 [.map (some db)])::(db,.obj (mapO (Value.int .i64) ((E).map Dye.ent) cl))::H) (fun v H'=>∃ (ks:List Int) (XB:Heap),ks.Perm (E.map Dye.key)∧OwnS 3 1 v ks.length (ks.map (Value.int .i64)) XB∧H'=XB++((b1,.cells 132 1 [.map (some db)])::(db,.obj (mapO (Value.int .i64) ((E).map Dye.ent) cl))::H)):=by
 refine L_enter (l:=[.func (.func 175) #[] #[.pointer (some ⟨b1,0,none⟩)]]) Tryz.func173 rfl Tryz.ntmps173 rfl rfl ?_
 refine W_sr (W_assign rfl rfl (W_nil (W_sr (W_move rfl rfl (W_call (.cons rfl (.cons rfl .nil)) Tryz.call261 rfl (appSeq_L hok hEl (H:=H)) ?_)))))
 rintro v H' ⟨ks,XB,hpm,hX,rfl⟩
 refine W_assign rfl rfl (W_nil (W_ret1m (H2:=XB++((b1,.cells 132 1 [.map (some db)])::(db,.obj (mapO (Value.int .i64) ((E).map Dye.ent) cl))::H)) Tryz.results173 rfl (.nil _) zH ?_))
 exact ⟨ks,XB,hpm,hX,rfl⟩
theorem sortedK_L {w0:World} {H:Heap} {b1 db cl:Nat} {E:List Dye} (hok:MapOk (E.map Dye.ent) cl) (hEl:E.length≤1000) (hEn:(E.map Dye.key).Nodup) :LCalls Tryz.prog w0 86 #[.func (.func 175) #[] #[.pointer (some ⟨b1,0,none⟩)]] ((b1,.cells 132 1 [.map (some db)])::(db,.obj (mapO (Value.int .i64) ((E).map Dye.ent) cl))::H) (fun v H'=>∃ XB,OwnS 3 1 v (sortI (E.map Dye.key)).length ((sortI (E.map Dye.key)).map (Value.int .i64)) XB∧H'=XB++((b1,.cells 132 1 [.map (some db)])::(db,.obj (mapO (Value.int .i64) ((E).map Dye.ent) cl))::H)):=by
 refine L_enter (l:=[.func (.func 175) #[] #[.pointer (some ⟨b1,0,none⟩)]]) Tryz.func86 rfl Tryz.ntmps86 rfl rfl ?_
 refine W_sr (W_assign rfl rfl (W_nil (W_sr (W_move rfl rfl (W_call (.cons rfl .nil) Tryz.call173 rfl (collect_L hok hEl (H:=H)) ?_)))))
 rintro v H' ⟨ks,XB,hpm,hX,rfl⟩
 have hkl:ks.length≤1000:=by rw [hpm.length_eq,List.length_map]; exact hEl
 rcases own_or hX with ⟨rfl,hn0,-,rfl⟩ | ⟨b,cap,rfl,rfl,hcap,hmax⟩
 ·skip
  refine W_assign rfl rfl (W_nil (W_sr (W_move rfl rfl ?_)))
  refine W_callp (.cons rfl .nil) Tryz.call174 rfl (T:=fun _=>True) trivial (fun w0 H _ w hs=>(callsIn_wide.2 (Tryz.slices_Sort_int_none none 0 w)).mono (by rintro en w2 ⟨rfl,rfl⟩; exact ⟨_,_,rfl,⟨rfl,rfl⟩,hs⟩)) ?_
  refine W_nil (W_sr (W_move rfl rfl (W_assign rfl rfl (W_nil (W_ret1m (H2:=[]++((b1,.cells 132 1 [.map (some db)])::(db,.obj (mapO (Value.int .i64) ((E).map Dye.ent) cl))::H)) Tryz.results86 rfl (.nil _) zH ?_)))))
  obtain rfl:=List.eq_nil_of_length_eq_zero hn0
  have hE0:E.map Dye.key=[]:=List.Perm.nil_eq hpm |>.symm
  refine ⟨[],?_,rfl⟩
  rw [hE0,show sortI ([]:List Int)=[] from List.mergeSort_nil]
  exact .nil
 ·skip
  refine W_assign rfl rfl (W_nil (W_sr (W_move rfl rfl ?_)))
  refine W_hsub (H':=(b,.cells 3 (cap*1) (ks.map (Value.int .i64)))::((b1,.cells 132 1 [.map (some db)])::(db,.obj (mapO (Value.int .i64) ((E).map Dye.ent) cl))::H)) (.refl _) ?_
  refine W_call (.cons rfl .nil) Tryz.call174 rfl (sortI_L zO) ?_
  rintro v H' ⟨rfl,rfl⟩
  refine W_nil (W_sr (W_move rfl rfl (W_assign rfl rfl (W_nil (W_ret1m (H2:=[(b,.cells 3 (cap*1) ((sortI ks).map (Value.int .i64)))]++((b1,.cells 132 1 [.map (some db)])::(db,.obj (mapO (Value.int .i64) ((E).map Dye.ent) cl))::H)) Tryz.results86 rfl (.nil _) zH ?_)))))
  have hsi:sortI ks=sortI (E.map Dye.key):=asc_int ((sortI_perm _).trans (hpm.trans (sortI_perm _).symm)) (sortI_asc (hpm.nodup_iff.2 hEn)) (sortI_asc hEn)
  have hl2:ks.length=(sortI ks).length:=(sortI_perm _).length_eq.symm
  refine ⟨_,?_,rfl⟩
  rw [← hsi,hl2]
  exact OwnS.own (by simp) (by omega) hmax
theorem mkeys_L {w0:World} {H:Heap} {db:Nat} :LCalls Tryz.prog w0 87 #[.map (some db)] (H) (fun v H'=>∃ b1,v=.func (.func 175) #[] #[.pointer (some ⟨b1,0,none⟩)]∧H'=(b1,.cells 132 1 [.map (some db)])::H):=by
 refine L_enter (l:=[.map (some db)]) Tryz.func87 rfl Tryz.ntmps87 rfl rfl ?_
 refine W_sr ?_
 refine W_box (l:=[.map (some db)]) rfl rfl rfl (fun b1=>?_)
 refine W_assign rfl rfl (W_nil (W_sr (W_makeFunc .nil (.cons rfl .nil) rfl ?_)))
 refine W_assign rfl rfl (W_nil (W_ret1m Tryz.results87 rfl (.nil _) (.refl _) ?_))
 exact ⟨b1,rfl,rfl⟩
def dyK (dy:List (Int × Hd)):List Int:=sortI (dy.map (·.1))
theorem dyK_is (E:List Dye):sortI (E.map Dye.key)=dyK (E.map Dye.p):=by unfold dyK; rw [List.map_map]; rfl
theorem LifeH.dying {w0:World} {H:Heap} {HF:Heap} {lb T:Nat} {F:Lf} (hF:LifeH lb T F HF) (hl:F.dy.length≤1000) (hnd:(F.dy.map (·.1)).Nodup) :LCalls Tryz.prog w0 28 #[.pointer (some ⟨lb,0,none⟩)] (HF++H) (fun v H'=>∃ XB,OwnS 3 1 v (dyK F.dy).length ((dyK F.dy).map (Value.int .i64)) XB∧H'=XB++(HF++H)):=by
 cases hF with
 | @mk tb wb g1 g2 rb db M HT HW H1 H2 HR HD HM hT hO hW h1 o1 h2 o2 hR hU hD hM =>
 cases hD with
 | @mk E cl hok hdy =>
 have e0:((lb,.cells 134 15 (lfRow F.n M tb wb g1 g2 rb db))::(HT++(HW++(H1++(H2++(HR++([(db,.obj (mapO (Value.int .i64) ((E).map Dye.ent) cl))]++HM.flatten)))))))++H=(lb,.cells 134 15 (lfRow F.n M tb wb g1 g2 rb db))::(HT++(HW++(H1++(H2++(HR++((db,.obj (mapO (Value.int .i64) ((E).map Dye.ent) cl))::(HM.flatten++H))))))):=by simp only [List.cons_append,List.append_assoc,List.nil_append]
 rw [e0]
 have hEl:E.length≤1000:=by have:=congrArg List.length hdy; rw [List.length_map] at this; omega
 have hEn:(E.map Dye.key).Nodup:=by rw [← hdy,List.map_map] at hnd; exact hnd
 refine L_enter (l:=[.pointer (some ⟨lb,0,none⟩)]) Tryz.func28 rfl Tryz.ntmps28 rfl rfl ?_
 refine W_sr (W_assign rfl rfl (W_nil (W_seq (W_sr (W_move rfl rfl ?_)))))
 refine W_x (X_ptrNil rfl rfl ty23) (fun _ h=>by cases h) rfl ?_
 refine W_nil (W_condF rfl rfl (W_skip (W_sr (W_move rfl rfl (W_nilCheck rfl rfl (W_fieldAddr rfl fld134_7 zd rfl ?_))))))
 refine W_load (v:=.map (some db)) rfl ty132 rfl (Cell.own (b:=lb) zM (lf_tl (j:=5) hM.m4)) rfl ?_
 refine W_call (.cons rfl .nil) Tryz.call87 rfl mkeys_L ?_
 rintro v H' ⟨b1,rfl,rfl⟩
 refine W_call (.cons rfl .nil) Tryz.call86 rfl ((sortedK_L hok hEl hEn (b1:=b1) (H:=(lb,.cells 134 15 (lfRow F.n M tb wb g1 g2 rb db))::(HT++(HW++(H1++(H2++(HR++(HM.flatten++H)))))))).hsub zH) ?_
 rintro v H' ⟨XB,hX,rfl⟩
 refine W_assign rfl rfl (W_nil (W_ret1m (H2:=XB++((lb,.cells 134 15 (lfRow F.n M tb wb g1 g2 rb db))::(HT++(HW++(H1++(H2++(HR++((db,.obj (mapO (Value.int .i64) ((E).map Dye.ent) cl))::(HM.flatten++H))))))))) Tryz.results28 rfl (.nil _) zH ?_))
 rw [← e0,← hdy,← dyK_is]
 exact ⟨XB,hX,rfl⟩
theorem flat50:Flat Tryz.prog 1 50 [.int .i64,.int .i64,.int .i64,.bool]:=(Flat.struct ty50 zk zk (.cons (ks:=[.int .i64]) zd rfl zk (Flat.leaf (k:=.int .i64) ty3) (.cons (ks:=[.int .i64]) zd rfl zk (Flat.leaf (k:=.int .i64) ty3) (.cons (ks:=[.int .i64]) zd rfl zk (Flat.leaf (k:=.int .i64) ty3) (.cons (ks:=[.bool]) zd rfl zk (Flat.leaf (k:=.bool) ty4) .nil)))))
theorem agg50:aggB Tryz.prog 50=true:=by kernel_rfl
theorem gt50:Tryz.prog.eqGuardType Tryz.prog.depth 50=false:=by kernel_rfl
theorem gnC_like (v:Gn):Likes [.int .i64,.int .i64,.int .i64,.bool] (gnC v):=⟨⟨_,rfl⟩,⟨_,rfl⟩,⟨_,rfl⟩,⟨_,rfl⟩,trivial⟩
theorem gnC_inj (v w:Gn) (h:gnC v=gnC w):v=w:=by
 obtain ⟨a,b,c,d⟩:=v
 obtain ⟨a',b',c',d'⟩:=w
 simp only [gnC,List.cons.injEq,Value.int.injEq,Value.bool.injEq,true_and,and_true] at h
 obtain ⟨rfl,rfl,rfl,rfl⟩:=h
 rfl
def kF1 (Ws:List Wl):Lf:={ lf0 1 Ws with ms:=(lf0 1 Ws).ms.set 0 (some (Xm.new 1 2 1,false)) }
def kF2 (Ws:List Wl):Lf:=(putF (kF1 Ws) 0 0 5 [50]).1
def kF3 (Ws:List Wl):Lf:=(dropF (kF2 Ws) 0 5).1
def kP (Ws:List Wl):Nat→Lf
 | 0=>kF3 Ws
 | k+1=>(pollL (kP Ws k)).1
theorem k_put (Ws:List Wl):(putF (kF1 Ws) 0 0 5 [50]).2=(⟨0,1⟩,0):=by kernel_rfl
theorem k_num (Ws:List Wl):numF (kF2 Ws) 0 ⟨0,1⟩=(0,0):=by kernel_rfl
theorem k_drop (Ws:List Wl):(dropF (kF2 Ws) 0 5).2=0:=by kernel_rfl
theorem k_dy (Ws:List Wl):(kF3 Ws).dy=[(0,⟨0,1⟩)]:=by kernel_rfl
theorem k_dyK (Ws:List Wl):dyK (kF3 Ws).dy=[0]:=by rw [k_dy]; exact List.mergeSort_singleton _
theorem k_t0 (Ws:List Wl):(pollG (kP Ws 0).tr).2=[]:=by kernel_rfl
theorem k_c0 (Ws:List Wl):(pollG (clsAll { kP Ws 0 with tr:=(pollG (kP Ws 0).tr).1 } (pollG (kP Ws 0).tr).2).cl).2=[]:=by kernel_rfl
theorem k_p0 (Ws:List Wl):(pollL (kP Ws 0)).2=[]:=by kernel_rfl
theorem k_bt0 (Ws:List Wl):(kP Ws 0).tr.began=0:=by kernel_rfl
theorem k_bc0 (Ws:List Wl):(kP Ws 0).cl.began=0:=by kernel_rfl
theorem k_t1 (Ws:List Wl):(pollG (kP Ws 1).tr).2=[0]:=by kernel_rfl
theorem k_c1 (Ws:List Wl):(pollG (clsAll { kP Ws 1 with tr:=(pollG (kP Ws 1).tr).1 } (pollG (kP Ws 1).tr).2).cl).2=[]:=by kernel_rfl
theorem k_p1 (Ws:List Wl):(pollL (kP Ws 1)).2=[]:=by kernel_rfl
theorem k_bt1 (Ws:List Wl):(kP Ws 1).tr.began=1:=by kernel_rfl
theorem k_bc1 (Ws:List Wl):(kP Ws 1).cl.began=0:=by kernel_rfl
theorem k_t2 (Ws:List Wl):(pollG (kP Ws 2).tr).2=[]:=by kernel_rfl
theorem k_c2 (Ws:List Wl):(pollG (clsAll { kP Ws 2 with tr:=(pollG (kP Ws 2).tr).1 } (pollG (kP Ws 2).tr).2).cl).2=[0]:=by kernel_rfl
theorem k_p2 (Ws:List Wl):(pollL (kP Ws 2)).2=[⟨0,0,1,false⟩]:=by kernel_rfl
theorem k_bt2 (Ws:List Wl):(kP Ws 2).tr.began=1:=by kernel_rfl
theorem k_bc2 (Ws:List Wl):(kP Ws 2).cl.began=1:=by kernel_rfl
theorem k_m2 (Ws:List Wl):(mapF (kP Ws 2) 0).isSome=true:=by kernel_rfl
theorem lknown_L {w0:World} {H:Heap}  (hT:Tab w0):LCalls Tryz.prog w0 19 #[] (H) (fun v H'=>v=.bool true∧H'=H):=by
 refine L_enter (l:=[]) Tryz.func19 rfl Tryz.ntmps19 rfl rfl ?_
 refine W_sr (W_assign rfl rfl (W_nil (W_sr (W_call (.cons rfl (.cons rfl .nil)) Tryz.call38 rfl ((lfNew_L (n:=1) (now:=0) zd zd).hsub (.refl _)) ?_))))
 rintro v H' ⟨lb,Ws,HF0,rfl,hF0,hWl,hfr,rfl⟩
 refine W_move rfl rfl (W_extract rfl rfl rfl (W_extract rfl rfl rfl (W_assign rfl rfl (W_assign rfl rfl (W_nil (W_seq (W_sr (W_move rfl rfl (W_bin rfl rfl b_neq rfl ?_)))))))))
 first | rw [decide_eq_true (by omega)] | rw [decide_eq_false (by omega)]
 refine W_nil (W_condF rfl rfl (W_skip (W_sr (W_move rfl rfl (W_call (.cons rfl (.cons rfl (.cons rfl (.cons rfl .nil)))) Tryz.call25 rfl ((lMake_go hF0 (kind:=1) (entries:=2) (words:=1) zd zd zd zd hT (H:=H)).hsub (.refl _)) ?_)))))
 rintro v H' ⟨HF1,hh,rfl⟩
 obtain ⟨hF1,rfl⟩:LifeH lb 8 (kF1 Ws) HF1∧v=.tuple #[.int .i64 0,.int .i64 0]:=hh
 refine W_move rfl rfl (W_extract rfl rfl rfl (W_extract rfl rfl rfl (W_assign rfl rfl (W_assign rfl rfl (W_nil (W_sr (W_move rfl rfl ?_)))))))
 refine W_buildSlice (l:=[.int .u64 50]) ty84 ty30 (.cons rfl rfl rfl rfl rfl .nil) rfl rfl rfl rfl rfl rfl rfl (fun b25=>?_)
 refine W_call (.cons rfl (.cons rfl (.cons rfl (.cons rfl (.cons rfl .nil))))) Tryz.call14 rfl ((hF1.put hT zd (m:=0) (how:=0) (k:=5) (ws:=[50]) zd (fun HZ=>Holds.own (b:=b25) (List.mem_append_right _ List.mem_cons_self)) (capw:=1) (H:=(b25,.cells 30 (1*1) [.int .u64 50])::H)).hsub zH) ?_
 rintro v H' ⟨HF2,hF2,rfl,rfl⟩
 replace hF2:LifeH lb _ (kF2 Ws) HF2:=hF2
 rw [show (putF (kF1 Ws) 0 0 5 [50]).2.1=⟨0,1⟩ from congrArg Prod.fst (k_put Ws),show (putF (kF1 Ws) 0 0 5 [50]).2.2=0 from congrArg Prod.snd (k_put Ws)]
 refine W_move rfl rfl (W_extract rfl rfl rfl (W_extract rfl rfl rfl ?_))
 refine W_alloc (l:=hdC zHd) ty40 rfl rfl (fun b5=>?_)
 refine W_storeA (l':=hdC ⟨0,1⟩) rfl rfl ty40 rfl rfl (b:=b5) zM (by exact Nat.le_refl 2) rfl zU ?_
 refine W_assign rfl rfl (W_nil (W_sr (W_move rfl rfl (W_loadB (vs:=hdC ⟨0,1⟩) rfl ty40 rfl (b:=b5) zM rfl rfl rfl ?_))))
 refine W_callq (.cons rfl (.cons rfl (.cons rfl .nil))) Tryz.call16 rfl (hF2.number (fun p hp=>by first | exact List.mem_append_left _ hp | exact List.mem_cons_of_mem _ (List.mem_append_left _ hp)) (m:=0) (h:=⟨0,1⟩)) ?_
 rw [k_num]
 refine W_move rfl rfl (W_extract rfl rfl rfl (W_extract rfl rfl rfl (W_assign rfl rfl (W_assign rfl rfl (W_nil (W_seq (W_sr (W_move rfl rfl (W_bin rfl rfl b_neq rfl ?_)))))))))
 first | rw [decide_eq_true (by omega)] | rw [decide_eq_false (by omega)]
 refine W_move rfl rfl (W_gyes rfl rfl (W_move rfl rfl (W_gyes rfl rfl (W_bin rfl rfl b_neq rfl ?_))))
 first | rw [decide_eq_true (by omega)] | rw [decide_eq_false (by omega)]
 first | refine W_pickt rfl rfl rfl ?_ | refine W_pickf rfl rfl rfl ?_
 refine W_move rfl rfl (W_gyes rfl rfl (W_move rfl rfl (W_gyes rfl rfl (W_bin rfl rfl b_neq rfl ?_))))
 first | rw [decide_eq_true (by omega)] | rw [decide_eq_false (by omega)]
 first | refine W_pickt rfl rfl rfl ?_ | refine W_pickf rfl rfl rfl ?_
 refine W_move rfl rfl (W_gyes rfl rfl (W_loadB (vs:=hdC ⟨0,1⟩) rfl ty40 rfl (b:=b5) zM rfl rfl rfl ?_))
 refine W_gyes rfl rfl (W_build (l:=hdC ⟨0,1⟩) ty40 pl40 (.cons rfl rfl rfl rfl rfl (.cons rfl rfl rfl rfl rfl .nil)) rfl rfl rfl ?_)
 refine W_gyes rfl rfl ?_
 refine W_x (X_neF (f:=hdC) rfl rfl flat40 agg40 hdC_like hdC_inj gt40 zd) (fun _ h=>by cases h) rfl ?_
 first | rw [decide_eq_false (by decide)] | skip
 first | refine W_pickt rfl rfl rfl ?_ | refine W_pickf rfl rfl rfl ?_
 refine W_move rfl rfl (W_gyes rfl rfl (W_move rfl rfl (W_gyes rfl rfl (W_bin rfl rfl b_neq rfl ?_))))
 first | rw [decide_eq_true (by omega)] | rw [decide_eq_false (by omega)]
 first | refine W_pickt rfl rfl rfl ?_ | refine W_pickf rfl rfl rfl ?_
 refine W_move rfl rfl (W_gyes rfl rfl (W_move rfl rfl (W_gyes rfl rfl (W_bin rfl rfl b_neq rfl ?_))))
 first | rw [decide_eq_true (by omega)] | rw [decide_eq_false (by omega)]
 first | refine W_pickt rfl rfl rfl ?_ | refine W_pickf rfl rfl rfl ?_
 refine W_move rfl rfl (W_gyes rfl rfl (W_move rfl rfl (W_gyes rfl rfl (W_call (.cons rfl (.cons rfl (.cons rfl .nil))) Tryz.call17 rfl ((hF2.drop (m:=0) (k:=5) (H:=(b5,.cells 40 2 (hdC ⟨0,1⟩))::H)).hsub zH) ?_))))
 rintro v H' ⟨HF3,hF3,rfl,rfl⟩
 replace hF3:LifeH lb _ (kF3 Ws) HF3:=hF3
 rw [k_drop]
 refine W_gyes rfl rfl (W_bin rfl rfl b_neq rfl ?_)
 first | rw [decide_eq_true (by omega)] | rw [decide_eq_false (by omega)]
 first | refine W_pickt rfl rfl rfl ?_ | refine W_pickf rfl rfl rfl ?_
 refine W_move rfl rfl (W_gyes rfl rfl (W_move rfl rfl (W_gyes rfl rfl ?_)))
 refine W_call (.cons rfl .nil) Tryz.call28 rfl ((hF3.dying (by rw [k_dy]; decide) (by rw [k_dy]; decide) (H:=(b5,.cells 40 2 (hdC ⟨0,1⟩))::H)).hsub zH) ?_
 rintro v H' ⟨XD,hOD,rfl⟩
 rw [k_dyK] at hOD
 obtain ⟨adk,capk,rfl,_,_,hrk⟩:=Holds.of_own (w0:=w0) (H:=XD++[]) hOD (fun p hp=>List.mem_append_left _ hp)
 refine W_gyes rfl rfl ?_
 refine W_buildSlice (l:=[.int .i64 0]) ty63 ty3 (.cons rfl rfl rfl rfl rfl .nil) rfl rfl rfl rfl rfl rfl rfl (fun b66=>?_)
 refine W_gyes rfl rfl (W_callq (.cons rfl (.cons rfl .nil)) Tryz.call46 rfl (same_q (l:=[0]) (r:=[0]) (hrk.up zH) (Holds.own (b:=b66) zM) zd) ?_)
 rw [decide_eq_true (rfl:([0]:List Int)=[0])]
 refine W_gyes rfl rfl (W_not rfl rfl ?_)
 first | refine W_pickt rfl rfl rfl ?_ | refine W_pickf rfl rfl rfl ?_
 refine W_nil (W_condF rfl rfl (W_skip (W_sr (W_move rfl rfl ?_))))
 refine W_call (.cons rfl .nil) Tryz.call18 rfl ((LifeH.poll (F0:=kP Ws 0) hF3 (by rw [k_bt0]; decide) (by rw [k_bc0]; decide) (by rw [k_t0]; intro z hz; cases hz) (by rw [k_c0]; intro z hz; cases hz) hT (H:=H)).hsub zH) ?_
 rintro v H' ⟨HP1,XP1,hP1,hO1,rfl⟩
 replace hP1:LifeH lb _ (kP Ws 1) HP1:=hP1
 rw [k_p0] at hO1
 obtain ⟨ad1,cap1,rfl,_,_,_⟩:=Holds.of_own (w0:=w0) (H:=XP1++[]) hO1 (fun p hp=>List.mem_append_left _ hp)
 refine W_move rfl rfl ?_
 refine W_call (.cons rfl .nil) Tryz.call18 rfl ((LifeH.poll (F0:=kP Ws 1) hP1 (by rw [k_bt1]; decide) (by rw [k_bc1]; decide) (by rw [k_t1]; intro z hz; obtain rfl:=List.mem_singleton.1 hz; decide) (by rw [k_c1]; intro z hz; cases hz) hT (H:=H)).hsub zH) ?_
 rintro v H' ⟨HP2,XP2,hP2,hO2,rfl⟩
 replace hP2:LifeH lb _ (kP Ws 2) HP2:=hP2
 rw [k_p1] at hO2
 obtain ⟨ad2,cap2,rfl,_,_,_⟩:=Holds.of_own (w0:=w0) (H:=XP2++[]) hO2 (fun p hp=>List.mem_append_left _ hp)
 refine W_move rfl rfl ?_
 refine W_call (.cons rfl .nil) Tryz.call18 rfl ((LifeH.poll (F0:=kP Ws 2) hP2 (by rw [k_bt2]; decide) (by rw [k_bc2]; decide) (by rw [k_t2]; intro z hz; cases hz) (by rw [k_c2]; intro z hz; obtain rfl:=List.mem_singleton.1 hz; exact ⟨by decide,k_m2 Ws⟩) hT (H:=H)).hsub zH) ?_
 rintro v H' ⟨HP3,XP3,hP3,hO3,rfl⟩
 replace hP3:LifeH lb _ (kP Ws 3) HP3:=hP3
 rw [k_p2] at hO3
 obtain ⟨bg,capg,rfl,rfl⟩:∃ bg capg,v=.slice (some ⟨bg,0,none⟩) 1 capg∧XP3=[(bg,.cells 50 (capg*4) (gnC ⟨0,0,1,false⟩))]:=by
  cases hO3 with
  | own=>exact ⟨_,_,rfl,rfl⟩
 refine W_assign rfl rfl (W_assign rfl rfl (W_assign rfl rfl (W_nil (W_sr (W_move rfl rfl (W_len rfl ty47 rfl rfl ?_))))))
 refine W_bin rfl rfl b_eql rfl ?_
 rw [decide_eq_true (by decide)]
 refine W_move rfl rfl (W_gyes rfl rfl (W_move rfl rfl (W_gyes rfl rfl (W_len rfl ty47 rfl rfl ?_))))
 refine W_gyes rfl rfl (W_bin rfl rfl b_eql rfl ?_)
 rw [decide_eq_true (by decide)]
 first | refine W_pickt rfl rfl rfl ?_ | refine W_pickf rfl rfl rfl ?_
 refine W_move rfl rfl (W_gyes rfl rfl (W_move rfl rfl (W_gyes rfl rfl (W_len rfl ty47 rfl rfl ?_))))
 refine W_gyes rfl rfl (W_bin rfl rfl b_eql rfl ?_)
 first | rw [decide_eq_true (by omega)] | rw [decide_eq_false (by omega)]
 first | refine W_pickt rfl rfl rfl ?_ | refine W_pickf rfl rfl rfl ?_
 refine W_move rfl rfl (W_gyes rfl rfl (W_move rfl rfl (W_gyes rfl rfl (W_indexAddr (j:=0) rfl rfl ty47 ty50 rfl zd rfl rfl ?_))))
 refine W_gyes rfl rfl (W_loadB (vs:=gnC ⟨0,0,1,false⟩) rfl ty50 rfl (b:=bg) zM rfl rfl rfl ?_)
 refine W_gyes rfl rfl (W_build (l:=gnC ⟨0,0,1,false⟩) ty50 pl50 (.cons rfl rfl rfl rfl rfl (.cons rfl rfl rfl rfl rfl (.cons rfl rfl rfl rfl rfl .nil))) rfl rfl rfl ?_)
 refine W_gyes rfl rfl ?_
 refine W_x (X_eqF (f:=gnC) rfl rfl flat50 agg50 gnC_like gnC_inj gt50 zd) (fun _ h=>by cases h) rfl ?_
 first | refine W_pickt rfl rfl rfl ?_ | refine W_pickf rfl rfl rfl ?_
 refine W_assign rfl rfl (W_nil (W_ret1m (H2:=H) Tryz.results19 rfl (.nil _) zH ?_))
 exact ⟨rfl,rfl⟩
theorem lknown_pure:Pure Tryz.prog Tab 19 [] (.bool true):=fun w0 H hT=>lknown_L hT
end Go.Proofs.YtincjohoncljoaaGreatDoor
namespace Go.Proofs.YtincjohoncljoaaGreatDoor
open Go Go.Sl Go.ChangeShapes Go.WideShapes Go.ChangeAt Go.RowKit
set_option maxRecDepth 100000
theorem own:ownKnob Tryz.prog.godebug=none:=by kernel_rfl
theorem kids:Kids Tryz.prog (·<Tryz.prog.types.size):=kids_rows zk zk
theorem full:∀ t e,t<Tryz.prog.types.size→Tryz.prog.underlying t=some (.slice e)→0<Tryz.prog.cellsOf e:=slices_full_of Tryz.prog zk
theorem u4:Tryz.prog.underlying 4=some .bool:=by kernel_rfl
theorem u3:Tryz.prog.underlying 3=some (.int .i64):=by kernel_rfl
theorem u590:Tryz.prog.underlying 590=some (.array 64 5):=by kernel_rfl
theorem u5:Tryz.prog.underlying 5=some (.int .u8):=by kernel_rfl
theorem gDz:Tryz.prog.globalNamed "math/bits.deBruijn64tab"=some 0:=by kernel_rfl
theorem tDz:(Tryz.prog.globals[0]?).map (·.type)=some 590:=by kernel_rfl
abbrev laidL:List (String × DataW Unit):=[("math/bits.deBruijn64tab",Rows.laid_math_bits_deBruijn64tab)]
theorem tab_laid {W:World} (h:laidMetH Tryz.prog laidL W):Tab W:=fun j hj=>by
 have h1:Lib.TabIs Tryz.prog W "math/bits.deBruijn64tab" .u8 (Lib.deBruijn64tab.map fun z:Nat=>(z:Int)):=Lib.tabIs_of_head (rest:=[]) gDz tDz u590 u5 zk zk (show laidMet Tryz.prog laidL W from h)
 have h2:=h1.cell gDz j (by rw [List.length_map]; exact hj)
 rw [h2]
 rw [List.getD_eq_getElem?_getD,List.getD_eq_getElem?_getD,List.getElem?_map]
 cases Lib.deBruijn64tab[j]? <;> rfl
theorem joined_parts {P:Program} {f:FuncId} {fn:Func} {s:ChangeSpec} {c:OpenClaim}
 (h1:c.wf (OpenSpec.ofChange s)=true) (h2:laidOutB P=true) (h3:mapsRowed P=true) (h4:fn.params.all (P.readableRec ·)=true) (h5:namedTie P c.named s.vars=true) (h6:(c.stops == [])=true) (h7:(P.stops == [])=true) (h8:(c.knobs == [])=true) (h9:(P.stopKnobs == [])=true)
 (h10:(c.inPlace == P.inPlace f)=true) (h11:(c.unfollowed == P.unfollowed f)=true) (h12:(c.recurses == P.recurses f)=true) (h13:(c.named == P.varsNamed f)=true)
 (h14:(c.maps == (fn.params.toList++s.plain.varTypes P).any (P.mapsRec ·))=true) (h15:(c.ifaces == (fn.params.toList++s.plain.varTypes P).any (P.ifacesRec ·))=true) (h16:(c.mapsOut == P.mapsAmong fn.resultTypes.toList)=true)
 (h17:(c.loops == (fn.params.toList++s.plain.varTypes P).any (P.loopsFrom ·))=true) (h18:(c.wideKeys == (fn.params.toList++s.plain.varTypes P++fn.resultTypes.toList).any (P.wideKeysFrom ·))=true)
 (h19:s.vars.all (P.varReadable ·)=true) (h20:fn.resultTypes.all (fun t=>P.readableRec t && decide (t<P.types.size))=true) (h21:(c.ifacesOut == fn.resultTypes.toList.any (P.ifacesRec ·))=true) (h22:(c.loopsOut == fn.resultTypes.toList.any (P.loopsFrom ·))=true) (h23:(c.plainKeys == P.plainKeys)=true) (h24:c.shortTexts.isNone=true) (h25:P.stopsHeard=true) (h26:P.mayEnter=true) (h27:(c.lifted == P.liftsFinal)=true) (h28:(P.make == some c.make)=true)
 (h29:(c.kinds == (if c.domain.isEmpty then [] else fn.params.toList.map fun t=>match P.underlying t with | some (.int k)=>some k | _=>none))=true) (h30:(c.pinned == c.pinnedBy)=true)
 (h31:(c.veiled == (fn.params.toList++s.plain.varTypes P++fn.resultTypes.toList).any (P.veiledRec ·))=true) (h32:c.veiledFits P fn.params.toList (fn.params.toList++s.plain.varTypes P++fn.resultTypes.toList)=true):joinedFacts P f fn s c=true:=by
 unfold joinedFacts
 simp only [Bool.and_eq_true]
 and_intros <;> assumption
theorem any_chunks {α:Type} {l:List α} {p:α→Bool} {m k:Nat} (hm:0<m) (hl:l.length≤m*k) (h:∀ j,j<k→((l.drop (m*j)).take m).any p=false):l.any p=false:=by
 rw [List.any_eq_false]
 intro x hx
 obtain ⟨i,hi,rfl⟩:=List.getElem_of_mem hx
 have hj:i/m<k:=Nat.div_lt_of_lt_mul zO
 refine List.any_eq_false.1 (h _ hj) _ (List.mem_of_getElem? (i:=i%m) ?_)
 rw [List.getElem?_take,if_pos (Nat.mod_lt _ hm),List.getElem?_drop,Nat.div_add_mod,List.getElem?_eq_getElem hi]
theorem goes_none {P:Program} {c:OpenClaim} (h:P.funcs.toList.any Func.goes=false) (hs:c.start=.entering):false=c.goesBy P:=by
 rw [List.any_eq_false] at h
 have hg:∀ f,P.goes f=false:=fun f=>by
  unfold Program.goes
  have h1:((P.closure f).any fun g=>(P.funcs[g]?).any Func.goes)=false:=by
   rw [List.any_eq_false]
   intro g _ hh
   cases e:P.funcs[g]? with
   | none=>rw [e] at hh; cases hh
   | some fn =>
    rw [e] at hh
    exact h fn (by obtain ⟨hb,rfl⟩:=Array.getElem?_eq_some_iff.1 e; exact Array.getElem_mem_toList hb) hh
  have h2:P.funcs.any Func.goes=false:=by
   rw [← Array.any_toList,List.any_eq_false]; exact h
  rw [h1,h2,Bool.and_false]; rfl
 unfold OpenClaim.goesBy Program.goesAt Program.goesFrom
 rw [hs]
 cases P.funcNamed c.func with
 | none=>rfl
 | some f=>show false=(P.goes f || false); rw [hg]; rfl
theorem p_laid:laidOutB Tryz.prog=true:=by kernel_rfl
theorem p_rowed:mapsRowed Tryz.prog=true:=by kernel_rfl
theorem p_stops:(Tryz.prog.stops == [])=true:=by kernel_rfl
theorem p_knobs:(Tryz.prog.stopKnobs == [])=true:=by kernel_rfl
theorem p_heard:Tryz.prog.stopsHeard=true:=by kernel_rfl
theorem p_enter:Tryz.prog.mayEnter=true:=by kernel_rfl
theorem p_size:Tryz.prog.funcs.toList.length≤60*9:=by decide +kernel
theorem p_g0:((Tryz.prog.funcs.toList.drop (60*0)).take 60).any Func.goes=false:=by kernel_rfl
theorem p_g1:((Tryz.prog.funcs.toList.drop (60*1)).take 60).any Func.goes=false:=by kernel_rfl
theorem p_g2:((Tryz.prog.funcs.toList.drop (60*2)).take 60).any Func.goes=false:=by kernel_rfl
theorem p_g3:((Tryz.prog.funcs.toList.drop (60*3)).take 60).any Func.goes=false:=by kernel_rfl
theorem p_g4:((Tryz.prog.funcs.toList.drop (60*4)).take 60).any Func.goes=false:=by kernel_rfl
theorem p_g5:((Tryz.prog.funcs.toList.drop (60*5)).take 60).any Func.goes=false:=by kernel_rfl
theorem p_g6:((Tryz.prog.funcs.toList.drop (60*6)).take 60).any Func.goes=false:=by kernel_rfl
theorem p_g7:((Tryz.prog.funcs.toList.drop (60*7)).take 60).any Func.goes=false:=by kernel_rfl
theorem p_g8:((Tryz.prog.funcs.toList.drop (60*8)).take 60).any Func.goes=false:=by kernel_rfl
theorem p_goes:Tryz.prog.funcs.toList.any Func.goes=false:=any_chunks zd p_size fun j hj=>by
 match j,hj with
 | 0,_=>exact p_g0
 | 1,_=>exact p_g1
 | 2,_=>exact p_g2
 | 3,_=>exact p_g3
 | 4,_=>exact p_g4
 | 5,_=>exact p_g5
 | 6,_=>exact p_g6
 | 7,_=>exact p_g7
 | 8,_=>exact p_g8
 | n+9,h=>exact absurd h zO
noncomputable def laidWorld (os:Os):World :=
 let w0:=World.holding Tryz.prog os ⟨#[],#[],[]⟩
 let put (h:Array Obj) (g:Nat) (cs:Array Value):Array Obj:=h.modify g fun
  | .cells _ t frozen=>.cells cs t frozen
  | o=>o
 { w0 with heap:=put w0.heap 0 (Lib.deBruijn64tab.map fun z:Nat=>Value.int .u8 (z:Int)).toArray }
theorem laid_met (os:Os) (args:Array Value):laidMet Tryz.prog laidL ((laidWorld os).forCall (fun _ _=>0) ⟨#[],args,[]⟩).memory :=
 laidMet_of_run' 8 zk zk
def inF (F:Lf) (z:Int):Lf × Int:=({ F with At:=(onA initO F.At z).1 },(onA initO F.At z).2)
theorem LifeH.timers {lb T:Nat} {F:Lf} {HF:Heap} (hF:LifeH lb T F HF):∃ tb:Nat,(∀ (w0:World) (H:Heap),(∀ p∈HF,p∈H)→PureAt Tryz.prog w0 H 21 [.pointer (some ⟨lb,0,none⟩)] (.pointer (some ⟨tb,0,none⟩)))∧∀ (w0:World) (H:Heap) (id:Int),LCalls Tryz.prog w0 22 #[.pointer (some ⟨tb,0,none⟩),.int .i64 id] (HF++H) (fun v H'=>∃ HF',LifeH lb T (inF F id).1 HF'∧v=.int .i64 (inF F id).2∧H'=HF'++H):=by
 cases hF with
 | @mk tb wb g1 g2 rb db M HT HW H1 H2 HR HD HM hT hO hW h1 o1 h2 o2 hR hU hD hM =>
 refine ⟨tb,fun w0 H hs=>lTimers_q (hs _ List.mem_cons_self) hM.m4,fun w0 H id=>?_⟩
 have e0:((lb,.cells 134 15 (lfRow F.n M tb wb g1 g2 rb db))::(HT++(HW++(H1++(H2++(HR++(HD++HM.flatten)))))))++H=(lb,.cells 134 15 (lfRow F.n M tb wb g1 g2 rb db))::(HT++(HW++(H1++(H2++(HR++(HD++(HM.flatten++H))))))):=by simp only [List.cons_append,List.append_assoc]
 rw [e0]
 refine LCalls.sub ((Init_L (id:=id) hT (H:=(lb,.cells 134 15 (lfRow F.n M tb wb g1 g2 rb db))::(HW++(H1++(H2++(HR++(HD++(HM.flatten++H)))))))).hsub zH) ?_
 rintro v H' ⟨HT2,hT2,rfl,rfl⟩
 refine ⟨_,?_,(lb,.cells 134 15 (lfRow F.n M tb wb g1 g2 rb db))::(HT2++(HW++(H1++(H2++(HR++(HD++HM.flatten)))))),.mk (F:=(inF F id).1) hT2 (hO.onA (fun o=>by unfold initO; split; rfl; split <;> rfl) id) hW h1 o1 h2 o2 hR hU hD hM,rfl,rfl⟩
 simp only [List.cons_append,List.append_assoc]
 exact zH
theorem LifeH.users {lb T:Nat} {F:Lf} {HF:Heap} (hF:LifeH lb T F HF) {w0:World} {H:Heap} (hs:∀ p∈HF,p∈H) {p:Int}:PureAt Tryz.prog w0 H 24 [.pointer (some ⟨lb,0,none⟩),.int .i64 p] (.int .i64 (cntR F.us p)):=by
 cases hF with
 | @mk tb wb g1 g2 rb db M HT HW H1 H2 HR HD HM hT hO hW h1 o1 h2 o2 hR hU hD hM =>
 exact lUsers_q (hs _ List.mem_cons_self) hM.m4 hR (fun p hp=>hs p (List.mem_cons_of_mem _ (List.mem_append_right _ (List.mem_append_right _ (List.mem_append_right _ (List.mem_append_right _ (List.mem_append_left _ hp)))))))
def usR (p:Int) (i:Nat):List (Int × Cnt):=if i=0 then [] else [(p,⟨if i<8 then (i:Int) else 8,8,decide (8<i)⟩)]
theorem getR_one (p:Int) (c:Cnt):getR [(p,c)] p=some c:=by unfold getR; simp
theorem setR_one (p:Int) (c d:Cnt):setR [(p,c)] p d=[(p,d)]:=by unfold setR; simp
theorem hold_us (p:Int) (i:Nat):holdR (usR p i) 8 p=(usR p (i+1),if i<8 then 0 else 13):=by
 unfold usR
 rw [if_neg (Nat.succ_ne_zero i)]
 by_cases h0:i=0
 ·subst h0; rfl
 ·rw [if_neg h0]
  unfold holdR
  rw [getR_one]; dsimp only; rw [setR_one]
  unfold getC
  by_cases h8:i<8
  ·rw [if_pos h8,if_pos h8]
   dsimp only
   rw [if_neg (by omega),if_neg (by omega),decide_eq_false (by omega),if_neg (by decide)]
   by_cases h7:i+1<8
   ·rw [if_pos h7,decide_eq_false (by omega)]; rfl
   ·obtain rfl:i=7:=by omega
    rfl
  ·rw [if_neg h8,if_neg h8,if_neg (show ¬ i+1<8 by omega)]
   dsimp only
   rw [if_neg (show ¬ (8:Int)=0 by decide),if_pos (rfl:(8:Int)=8),decide_eq_true (show 8<i+1 by omega)]
theorem useR_us (p:Int) (i:Nat) (was:Int):useR (usR p i) p was false=(usR p (i+1),if i<8 then 0 else 13):=by
 unfold useR; rw [hold_us]
 by_cases h:i<8
 ·rw [if_pos h]; rfl
 ·rw [if_neg h]; rfl
theorem cnt_us (p:Int) (i:Nat):cntR (usR p i) p=if i<8 then (i:Int) else 8:=by
 unfold usR cntR
 by_cases h0:i=0
 ·subst h0; rfl
 ·rw [if_neg h0,getR_one]
theorem get_us_no {p q:Int} (h:q≠p) (i:Nat):getR (usR p i) q=none:=by
 unfold usR getR
 by_cases h0:i=0
 ·rw [if_pos h0]; rfl
 ·rw [if_neg h0,List.find?_cons_of_neg (by simpa using h)]; rfl
theorem useR_end {p q:Int} (h:q≠p) {i:Nat} (hi:0<i):(useR (usR p i) q p true).2=0∧cntR (useR (usR p i) q p true).1 q=1∧cntR (useR (usR p i) q p true).1 p=if 8<i then 8 else (i:Int)-1:=by
 have e1:holdR (usR p i) 8 q=(usR p i++[(q,⟨1,8,false⟩)],0):=by unfold holdR; rw [get_us_no h]
 have e2:useR (usR p i) q p true=((dropR (usR p i++[(q,⟨1,8,false⟩)]) p).1,0):=by unfold useR; rw [e1]; rfl
 rw [e2]
 refine ⟨rfl,?_⟩
 have hp:¬ p=q:=fun e=>h e.symm
 unfold usR
 rw [if_neg (by omega)]
 obtain ⟨m,hm⟩:∃ m:Int,m=if i<8 then (i:Int) else 8:=⟨_,rfl⟩
 rw [← hm]
 have hm1:1≤m:=by rw [hm]; split <;> omega
 by_cases h8:8<i
 ·rw [decide_eq_true h8,if_pos h8]
  have:m=8:=by rw [hm,if_neg (by omega)]
  subst this
  unfold dropR getR
  simp [putC_,setR,cntR,getR,h,hp]
 ·rw [decide_eq_false h8,if_neg h8]
  have hmi:m=i:=by rw [hm]; split <;> omega
  subst hmi
  unfold dropR getR
  by_cases h1:(i:Int)-1=0
  ·have:i=1:=by omega
   subst this
   simp [putC_,setR,cntR,getR,h,hp]
  ·have:¬ i=0:=by omega
   simp [putC_,setR,cntR,getR,h,hp,h1,this]
structure UsI (p:Int) (ws:List Bool) (i:Nat) (F:Lf):Prop where
 us:F.us=usR p i
 at_:∀ j:Nat,i≤j→j<64→F.At[j]?=some zTone
 aw:∀ j:Nat,i≤j→j<64→F.Aw[j]?=some zWone
 zero:0<i→if ws[0]?=some true then F.Aw[0]?=some ⟨false,p+1⟩ else F.At[0]?=some ⟨true,false,p+1,0⟩
theorem UsI.start {p:Int} {ws:List Bool} {n:Nat} {Ws:List Wl} {y:List (Option (Xm × Bool))}:UsI p ws 0 { lf0 n Ws with ms:=y } :=
 ⟨rfl,fun j _ h=>by show (List.replicate 256 zTone)[j]?=_; rw [List.getElem?_replicate,if_pos (by omega)],fun j _ h=>by show (List.replicate 256 zWone)[j]?=_; rw [List.getElem?_replicate,if_pos (by omega)],fun h=>absurd h (Nat.lt_irrefl 0)⟩
theorem wk_is {F:Lf} {p:Int} {i:Nat} {o:Wone} (hi:i<64) (hp:0≤p∧p<16) (ho:F.Aw[i]?=some o) (hs:o.shut=false) (hn:¬ (0<o.prog∧max (o.prog-1) 0=p)):wkF F (i:Int) p=(if (useR F.us p (max (o.prog-1) 0) (decide (0<o.prog))).2≠0 then ({ F with us:=(useR F.us p (max (o.prog-1) 0) (decide (0<o.prog))).1 },(useR F.us p (max (o.prog-1) 0) (decide (0<o.prog))).2) else ({ F with us:=(useR F.us p (max (o.prog-1) 0) (decide (0<o.prog))).1,Aw:=F.Aw.set i ⟨false,p+1⟩ },0)):=by
 have hof:ofW F.Aw (i:Int)=o:=ofW_at zO ho
 have hst:¬ stateW F.Qw F.Aw (i:Int)=3:=by
  unfold stateW; rw [hof,hs]
  rw [if_neg (by decide)]
  split
  ·decide
  ·split <;> decide
 unfold wkF
 rw [if_neg (fun h=>h ⟨⟨by omega,by omega⟩,hp⟩),if_neg hst,hof,if_neg hn,Int.toNat_natCast]
 have e:setW p o=(⟨false,p+1⟩,0):=by unfold setW; rw [hs,if_neg (by decide)]
 rw [e]
theorem cb_is {F:Lf} {p:Int} {i:Nat} {o:Tone} (hi:i<64) (hp:0≤p∧p<16) (ho:F.At[i]?=some o) (hs:o.shut=false) (hmd:o.made=true) (hn:¬ (0<o.prog∧max (o.prog-1) 0=p)):cbF F (i:Int) p=(if (useR F.us p (max (o.prog-1) 0) (decide (0<o.prog))).2≠0 then ({ F with us:=(useR F.us p (max (o.prog-1) 0) (decide (0<o.prog))).1 },(useR F.us p (max (o.prog-1) 0) (decide (0<o.prog))).2) else ({ F with us:=(useR F.us p (max (o.prog-1) 0) (decide (0<o.prog))).1,At:=F.At.set i { o with prog:=p+1 } },0)):=by
 have hof:ofA F.At (i:Int)=o:=ofA_at zO ho
 have hst:¬ stateA F.Ws F.Qt F.At (i:Int)=4∧¬ stateA F.Ws F.Qt F.At (i:Int)=0:=by
  unfold stateA stateO; rw [hof,hs,hmd,if_neg (by decide),if_neg (by decide)]
  split
  ·decide
  ·split <;> decide
 unfold cbF
 rw [if_neg (fun h=>h ⟨⟨by omega,by omega⟩,hp⟩),if_neg hst.1,if_neg hst.2,hof,if_neg hn]
 have e:setA F.At (i:Int) p=(F.At.set i { o with prog:=p+1 },0):=by
  unfold setA; rw [if_pos hp,onA_at (by omega) ho]; unfold setO; rw [hs,hmd,if_neg (by decide),if_neg (by decide)]
 rw [e]
theorem UsI.work {p:Int} {ws:List Bool} {i:Nat} {F:Lf} (h:UsI p ws i F) (hi:i<16) (hp:0≤p∧p<16) (hw:ws[i]?=some true):UsI p ws (i+1) (wkF F (i:Int) p).1∧(wkF F (i:Int) p).2=if i<8 then 0 else 13:=by
 have e:=wk_is (F:=F) (i:=i) zO hp (h.aw i (Nat.le_refl _) zO) rfl (by rintro ⟨h,_⟩; exact absurd h zd)
 rw [show (decide (0<zWone.prog))=false from rfl,show max (zWone.prog-1) 0=0 from rfl,h.us,useR_us] at e
 dsimp only at e
 rw [e]
 by_cases h8:i<8
 ·rw [if_pos h8,if_neg (by decide)]
  refine ⟨⟨rfl,fun j h1 h2=>h.at_ j zO h2,fun j h1 h2=>?_,fun _=>?_⟩,rfl⟩
  ·show (F.Aw.set i ⟨false,p+1⟩)[j]?=_
   rw [List.getElem?_set_ne (by omega)]; exact h.aw j (by omega) h2
  ·show if ws[0]?=some true then (F.Aw.set i ⟨false,p+1⟩)[0]?=_ else F.At[0]?=_
   by_cases h0:i=0
   ·subst h0; rw [if_pos hw,List.getElem?_set_self (List.getElem?_eq_some_iff.1 (h.aw 0 (Nat.le_refl _) (by omega))).1]
   ·rw [List.getElem?_set_ne (by omega)]; exact h.zero (by omega)
 ·rw [if_neg h8,if_pos (by decide)]
  exact ⟨⟨rfl,fun j h1 h2=>h.at_ j zO h2,fun j h1 h2=>h.aw j zO h2,fun _=>h.zero zO⟩,rfl⟩
theorem UsI.call {p:Int} {ws:List Bool} {i:Nat} {F:Lf} (h:UsI p ws i F) (hi:i<16) (hp:0≤p∧p<16) (hw:¬ ws[i]?=some true):(inF F (i:Int)).2=0∧UsI p ws (i+1) (cbF (inF F (i:Int)).1 (i:Int) p).1∧(cbF (inF F (i:Int)).1 (i:Int) p).2=if i<8 then 0 else 13:=by
 have ho:=h.at_ i (Nat.le_refl _) zO
 have hlt:=(List.getElem?_eq_some_iff.1 ho).1
 have ei:inF F (i:Int)=({ F with At:=F.At.set i ⟨true,false,0,0⟩ },0):=by unfold inF; rw [onA_at (by omega) ho]; rfl
 rw [ei]
 refine ⟨rfl,?_⟩
 have e:=cb_is (F:={ F with At:=F.At.set i ⟨true,false,0,0⟩ }) (p:=p) (i:=i) (o:=⟨true,false,0,0⟩) zO hp (List.getElem?_set_self hlt) rfl rfl (by rintro ⟨h,_⟩; exact absurd h zd)
 dsimp only at e
 rw [show (decide ((0:Int)<0))=false from rfl,show max ((0:Int)-1) 0=0 from rfl,h.us,useR_us,List.set_set] at e
 dsimp only at e
 dsimp only
 rw [show (⟨F.n,F.ms,F.Ws,F.Qt,F.Rt,F.At.set i ⟨true,false,0,0⟩,F.Qw,F.Rw,F.Aw,F.on,F.tr,F.cl,usR p i,F.dy⟩:Lf)=⟨F.n,F.ms,F.Ws,F.Qt,F.Rt,F.At.set i ⟨true,false,0,0⟩,F.Qw,F.Rw,F.Aw,F.on,F.tr,F.cl,F.us,F.dy⟩ by rw [h.us]] at e
 rw [e]
 by_cases h8:i<8
 ·rw [if_pos h8,if_neg (by decide)]
  refine ⟨⟨rfl,fun j h1 h2=>?_,fun j h1 h2=>h.aw j zO h2,fun _=>?_⟩,rfl⟩
  ·show (F.At.set i ⟨true,false,p+1,0⟩)[j]?=_
   rw [List.getElem?_set_ne (by omega)]; exact h.at_ j (by omega) h2
  ·show if ws[0]?=some true then F.Aw[0]?=_ else (F.At.set i ⟨true,false,p+1,0⟩)[0]?=_
   by_cases h0:i=0
   ·subst h0; rw [if_neg hw,List.getElem?_set_self hlt]
   ·rw [List.getElem?_set_ne (by omega)]; exact h.zero (by omega)
 ·rw [if_neg h8,if_pos (by decide)]
  refine ⟨⟨rfl,fun j h1 h2=>?_,fun j h1 h2=>h.aw j zO h2,fun _=>?_⟩,rfl⟩
  ·show (F.At.set i ⟨true,false,0,0⟩)[j]?=_
   rw [List.getElem?_set_ne (by omega)]; exact h.at_ j (by omega) h2
  ·show if ws[0]?=some true then F.Aw[0]?=_ else (F.At.set i ⟨true,false,0,0⟩)[0]?=_
   rw [List.getElem?_set_ne (by omega)]; exact h.zero (by omega)
theorem UsI.end_w {p q:Int} {ws:List Bool} {i:Nat} {F:Lf} (h:UsI p ws i F) (hi:0<i) (hp:0≤p∧p<16) (hq:0≤q∧q<16) (hpq:q≠p) (hw:ws[0]?=some true):(wkF F 0 q).2=0∧cntR (wkF F 0 q).1.us q=1∧cntR (wkF F 0 q).1.us p=if 8<i then 8 else (i:Int)-1:=by
 have hz:=h.zero hi
 rw [if_pos hw] at hz
 have hpp:(0:Int)<p+1:=by omega
 have hmx:max (p+1-1) 0=p:=by omega
 have e:=wk_is (F:=F) (i:=0) (p:=q) zO hq hz rfl (by rintro ⟨_,e⟩; dsimp only at e; omega)
 dsimp only at e
 rw [hmx,decide_eq_true hpp,h.us,if_neg (fun x=>x (useR_end hpq hi).1)] at e
 rw [show (0:Int)=((0:Nat):Int) from rfl,e]
 exact ⟨rfl,(useR_end hpq hi).2⟩
theorem UsI.end_c {p q:Int} {ws:List Bool} {i:Nat} {F:Lf} (h:UsI p ws i F) (hi:0<i) (hp:0≤p∧p<16) (hq:0≤q∧q<16) (hpq:q≠p) (hw:¬ ws[0]?=some true):(cbF F 0 q).2=0∧cntR (cbF F 0 q).1.us q=1∧cntR (cbF F 0 q).1.us p=if 8<i then 8 else (i:Int)-1:=by
 have hz:=h.zero hi
 rw [if_neg hw] at hz
 have hpp:(0:Int)<p+1:=by omega
 have hmx:max (p+1-1) 0=p:=by omega
 have e:=cb_is (F:=F) (i:=0) (p:=q) zO hq hz rfl rfl (by rintro ⟨_,e⟩; dsimp only at e; omega)
 dsimp only at e
 rw [hmx,decide_eq_true hpp,h.us,if_neg (fun x=>x (useR_end hpq hi).1)] at e
 rw [show (0:Int)=((0:Nat):Int) from rfl,e]
 exact ⟨rfl,(useR_end hpq hi).2⟩
theorem modL (z:Int) {N:Nat} (h:0<N):∃ n:Nat,n<N∧(IntKind.u64.wrap z).tmod N=(n:Int):=by
 have e:IntKind.u64.wrap z=z%18446744073709551616:=by simp [IntKind.wrap,IntKind.signed,IntKind.bits]
 have h0:0≤IntKind.u64.wrap z:=by rw [e]; omega
 refine ⟨(IntKind.u64.wrap z%N).toNat,?_,?_⟩
 ·have:=Int.emod_lt_of_pos (IntKind.u64.wrap z) (show (0:Int)<N by omega)
  have:=Int.emod_nonneg (IntKind.u64.wrap z) (show (N:Int)≠0 by omega)
  omega
 ·rw [Int.tmod_eq_emod_of_nonneg h0]
  have:=Int.emod_nonneg (IntKind.u64.wrap z) (show (N:Int)≠0 by omega)
  omega
def sF (n:Nat) (Ws:List Wl):Lf:={ lf0 n Ws with ms:=[some (Xm.new 1 8 1,false),none,none,none] }
theorem start_L {w0:World} {H:Heap} (z:Int) (hT:Tab w0):LCalls Tryz.prog w0 9 #[.int .i64 z] (H) (fun v H'=>∃ n lb Ws HF,n<4∧v=.tuple #[.pointer (some ⟨lb,0,none⟩),.bool true]∧LifeH lb 8 (sF (n+1) Ws) HF∧Ws.length=n+1∧(∀ w∈Ws,FreshW 0 w)∧H'=HF++H):=by
 obtain ⟨n,hn4,hn⟩:=modL z (N:=4) zd
 refine L_enter (l:=[.int .i64 z]) Tryz.func9 rfl Tryz.ntmps9 rfl rfl ?_
 refine W_sr (W_assign rfl rfl (W_assign rfl rfl (W_nil (W_sr (W_move rfl rfl (W_conv (m:=IntKind.u64.wrap z) rfl ty3 ty30 rfl rfl ?_))))))
 refine W_bin rfl rfl (b_rem zd (m:=(n:Int)) hn) rfl ?_
 refine W_conv rfl ty30 ty3 (i64w zO) rfl ?_
 refine W_bin rfl rfl (b_add (m:=((n+1:Nat):Int)) (by rw [i64w (by omega)]; omega)) rfl ?_
 refine W_call (.cons rfl (.cons rfl .nil)) Tryz.call38 rfl ((lfNew_L (n:=n+1) (now:=0) zO zd).hsub (.refl _)) ?_
 rintro v H' ⟨lb,Ws,HF0,rfl,hF0,hWl,hfr,rfl⟩
 refine W_move rfl rfl (W_extract rfl rfl rfl (W_extract rfl rfl rfl (W_assign rfl rfl (W_assign rfl rfl (W_nil (W_seq (W_sr (W_move rfl rfl (W_bin rfl rfl b_neq rfl ?_)))))))))
 first | rw [decide_eq_true (by omega)] | rw [decide_eq_false (by omega)]
 refine W_nil (W_condF rfl rfl (W_skip (W_sr (W_move rfl rfl (W_call (.cons rfl (.cons rfl (.cons rfl (.cons rfl .nil)))) Tryz.call25 rfl ((lMake_go hF0 (kind:=1) (entries:=8) (words:=1) zd zd zd zd hT (H:=H)).hsub (.refl _)) ?_)))))
 rintro v H' ⟨HF1,hh,rfl⟩
 obtain ⟨hF1,rfl⟩:LifeH lb 8 (sF (n+1) Ws) HF1∧v=.tuple #[.int .i64 0,.int .i64 0]:=hh
 refine W_move rfl rfl (W_extract rfl rfl rfl (W_extract rfl rfl rfl (W_assign rfl rfl (W_assign rfl rfl (W_nil (W_sr (W_move rfl rfl (W_move rfl rfl ?_))))))))
 refine W_bin rfl rfl b_eql rfl ?_
 first | rw [decide_eq_true (by omega)] | rw [decide_eq_false (by omega)]
 refine W_move rfl rfl (W_gyes rfl rfl (W_move rfl rfl (W_gyes rfl rfl (W_bin rfl rfl b_eql rfl ?_))))
 first | rw [decide_eq_true (by omega)] | rw [decide_eq_false (by omega)]
 first | refine W_pickt rfl rfl rfl ?_ | refine W_pickf rfl rfl rfl ?_
 refine W_assign rfl rfl (W_assign rfl rfl (W_nil (W_ret2m (H2:=HF1++H) Tryz.results9 rfl rfl (.nil _) zH ?_)))
 exact ⟨n,lb,Ws,HF1,hn4,rfl,hF1,hWl,hfr,rfl⟩
theorem lifeUses_L {w0:World} {H:Heap} {pr us:Int} {ws:List Bool} {adw:Option Addr} {capw:Nat} (hrow:Holds w0 H adw (ws.map Value.bool)) (hlen:ws.length≤9223372036854775807) (hT:Tab w0):LCalls Tryz.prog w0 4 #[.int .i64 pr,.int .i64 us,.slice adw ws.length capw] (H) (fun v H'=>v=.bool true∧H'=H):=by
 obtain ⟨p,hp16,hp⟩:=modL pr (N:=16) zd
 obtain ⟨u,hu16,hu⟩:=modL us (N:=16) zd
 have hpr:0≤(p:Int)∧(p:Int)<16:=⟨by omega,by omega⟩
 refine L_enter (l:=[.int .i64 pr,.int .i64 us,.slice adw ws.length capw]) Tryz.func4 rfl Tryz.ntmps4 rfl rfl ?_
 refine W_sr (W_assign rfl rfl (W_nil (W_sr (W_call (.cons rfl .nil) Tryz.call9 rfl ((start_L 0 hT (H:=H)).hsub (.refl _)) ?_))))
 rintro v H' ⟨n,lb,Ws,HF,hn4,rfl,hF,hWl,hfr,rfl⟩
 refine W_move rfl rfl (W_extract rfl rfl rfl (W_extract rfl rfl rfl (W_assign rfl rfl (W_assign rfl rfl (W_nil (W_seq (W_sr (W_move rfl rfl (W_not rfl rfl ?_)))))))))
 refine W_nil (W_condF rfl rfl (W_skip (W_sr (W_move rfl rfl (W_conv (m:=IntKind.u64.wrap pr) rfl ty3 ty30 rfl rfl ?_)))))
 refine W_bin rfl rfl (b_rem zd (m:=(p:Int)) hp) rfl ?_
 refine W_conv rfl ty30 ty3 (i64w zO) rfl ?_
 refine W_move rfl rfl (W_conv (m:=IntKind.u64.wrap us) rfl ty3 ty30 rfl rfl ?_)
 refine W_bin rfl rfl (b_rem zd (m:=(u:Int)) hu) rfl ?_
 refine W_conv rfl ty30 ty3 (i64w zO) rfl ?_
 refine W_assign rfl rfl (W_assign rfl rfl (W_nil (W_seq (W_sr (W_assign rfl rfl (W_nil (W_block ?_)))))))
 refine W_loopC (X:=(Nat × Lf × Heap)) [(0,_),(1,_),(2,_),(7,_)] (fun (z:(Nat × Lf × Heap))=>[(9,.int .i64 (z.1:Int))]) (fun _=>_) (fun (z:(Nat × Lf × Heap))=>z.2.2++H) (fun (z:(Nat × Lf × Heap))=>z.1≤u∧UsI (p:Int) ws z.1 z.2.1∧LifeH lb 8 z.2.1 z.2.2) (fun (z:(Nat × Lf × Heap))=>u-z.1) (0,sF (n+1) Ws,HF) ⟨Nat.zero_le _,UsI.start,hF⟩ (sub_cons rfl (sub_cons rfl (sub_cons rfl (sub_cons rfl (sub_nil _))))) (sub_cons rfl (sub_nil _)) rfl (.refl _) ?_
 rintro ⟨i,F,HF⟩ ⟨hi,hI,hF⟩
 dsimp only at hi hI hF ⊢
 simp only [List.cons_append,List.nil_append]
 refine W_seq (W_sr (W_move rfl rfl (W_move rfl rfl (W_bin rfl rfl b_lss rfl ?_))))
 refine W_nil ?_
 refine W_condPS (p:=(i:Int)<(u:Int)) rfl (by simp) (fun c0=>?_) (fun c0=>?_)
 ·skip
  refine W_skip (W_seq (W_block (W_sr (W_assign rfl rfl (W_nil (W_seq (W_sr (W_move rfl rfl (W_bin rfl rfl b_geq rfl ?_)))))))))
  refine W_nil ?_
  refine W_condPS (p:=(8:Int)≤(i:Int)) rfl (by simp) (fun c1=>?_) (fun c1=>?_)
  ·skip
   refine W_region (W_assign rfl rfl (W_nil (W_sr (W_assign rfl rfl (W_nil (W_seq (W_sr ?_)))))))
   rcases (show ¬ i<ws.length∨ws[i]?=some true∨ws[i]?=some false by by_cases h:i<ws.length; (obtain ⟨b,hb⟩:∃ b,ws[i]?=some b:=⟨_,List.getElem?_eq_getElem h⟩); (cases b; exact .inr (.inr hb); exact .inr (.inl hb)); exact .inl h) with hw | hw | hw
   ·skip
    replace hw:¬ ws[i]?=some true∧¬ i<ws.length:=⟨fun e=>hw (List.getElem?_eq_some_iff.1 e).1,hw⟩
    obtain ⟨hw,hwl⟩:=hw
    refine W_move rfl rfl (W_move rfl rfl (W_len rfl ty53 rfl rfl ?_))
    refine W_bin rfl rfl b_lss rfl ?_
    rw [decide_eq_false (by omega)]
    refine W_move rfl rfl (W_gno rfl rfl rfl ?_)
    refine W_gno rfl rfl rfl ?_
    refine W_gno rfl rfl rfl ?_
    refine W_gno rfl rfl rfl ?_
    first | refine W_pickt rfl rfl rfl ?_ | refine W_pickf rfl rfl rfl ?_
    refine W_nil (W_condF rfl rfl (W_seq (W_sr (W_move rfl rfl ?_))))
    obtain ⟨tb,hTq,hTi⟩:=hF.timers
    refine W_callq (.cons rfl .nil) Tryz.call21 rfl (hTq _ _ (fun p hp=>by first | exact List.mem_append_left _ hp | exact List.mem_cons_of_mem _ (List.mem_append_left _ hp))) ?_
    refine W_move rfl rfl (W_call (.cons rfl (.cons rfl .nil)) Tryz.call22 rfl ((hTi _ H (i:Int)).hsub (.refl _)) ?_)
    rintro v H' ⟨HF1,hF1,rfl,rfl⟩
    obtain ⟨ei,hI2,he⟩:=hI.call zO hpr hw
    rw [ei]
    refine W_bin rfl rfl b_neq rfl ?_
    first | rw [decide_eq_true (by omega)] | rw [decide_eq_false (by omega)]
    refine W_nil (W_condF rfl rfl (W_skip (W_region (W_move rfl rfl (W_move rfl rfl (W_move rfl rfl (W_call (.cons rfl (.cons rfl (.cons rfl .nil))) Tryz.call23 rfl ((hF1.callback (z:=(i:Int)) (p:=(p:Int)) (H:=H)).hsub (.refl _)) ?_)))))))
    rintro v H' ⟨HF2,hF2,rfl,rfl⟩
    rw [he,if_neg (show ¬ i<8 by omega)]
    refine W_assign rfl rfl (W_nil (W_sr (W_move rfl rfl (W_move rfl rfl (W_bin rfl rfl b_neq rfl ?_)))))
    rw [decide_eq_false (by decide)]
    refine W_move rfl rfl (W_gyes rfl rfl (W_move rfl rfl (W_gyes rfl rfl (W_move rfl rfl (W_gyes rfl rfl ?_)))))
    refine W_callq (.cons rfl (.cons rfl .nil)) Tryz.call24 rfl (hF2.users (fun p hp=>by first | exact List.mem_append_left _ hp | exact List.mem_cons_of_mem _ (List.mem_append_left _ hp)) (p:=(p:Int))) ?_
    rw [hI2.us,cnt_us]
    refine W_gyes rfl rfl (W_move rfl rfl (W_gyes rfl rfl (W_bin rfl rfl (b_add (m:=((i+1:Nat):Int)) (i64w zO)) rfl ?_)))
    refine W_gyes rfl rfl ?_
    refine W_min2 (m:=if i+1<8 then ((i+1:Nat):Int) else 8) rfl rfl (by split <;> omega) rfl ?_
    refine W_gyes rfl rfl (W_bin rfl rfl b_neq rfl ?_)
    rw [decide_eq_false (fun h=>h rfl)]
    first | refine W_pickt rfl rfl rfl ?_ | refine W_pickf rfl rfl rfl ?_
    refine W_nil (W_condF rfl rfl (W_skip (W_blk (W_region (W_move rfl rfl (W_bin rfl rfl (b_add (m:=((i+1:Nat):Int)) ((i64w zO).trans zO)) rfl ?_))))))
    refine W_assign rfl rfl (W_nil ?_)
    refine W_again (i+1,(cbF (inF F (i:Int)).1 (i:Int) (p:Int)).1,HF2) ⟨by show i+1≤u; omega,hI2,hF2⟩ (by show u-(i+1)<u-i; omega) (sub_cons rfl (sub_cons rfl (sub_cons rfl (sub_cons rfl (sub_cons rfl (sub_nil _)))))) rfl zH
   ·skip
    have hwl:=(List.getElem?_eq_some_iff.1 hw).1
    obtain ⟨q1,p1,rfl,hcf⟩:=hrow.at (i:=i) (v:=.bool true) (by rw [List.getElem?_map,hw]; rfl)
    refine W_move rfl rfl (W_move rfl rfl (W_len rfl ty53 rfl rfl ?_))
    refine W_bin rfl rfl b_lss rfl ?_
    rw [decide_eq_true (by omega)]
    refine W_move rfl rfl (W_gyes rfl rfl (W_move rfl rfl (W_gyes rfl rfl (W_move rfl rfl (W_gyes rfl rfl (W_indexAddr (j:=i) rfl rfl ty53 ty4 rfl hwl rfl rfl ?_))))))
    refine W_gyes rfl rfl ?_
    refine W_load (v:=.bool true) rfl ty4 rfl (by rw [Nat.mul_one]; exact hcf.up zH) rfl ?_
    first | refine W_pickt rfl rfl rfl ?_ | refine W_pickf rfl rfl rfl ?_
    refine W_nil (W_condT rfl rfl (W_region (W_move rfl rfl (W_move rfl rfl (W_move rfl rfl (W_call (.cons rfl (.cons rfl (.cons rfl .nil))) Tryz.call20 rfl ((hF.work (z:=(i:Int)) (p:=(p:Int)) (H:=H)).hsub (.refl _)) ?_))))))
    rintro v H' ⟨HF2,hF2,rfl,rfl⟩
    obtain ⟨hI2,he⟩:=hI.work zO hpr hw
    rw [he,if_neg (show ¬ i<8 by omega)]
    refine W_assign rfl rfl (W_nil (W_sr (W_move rfl rfl (W_move rfl rfl (W_bin rfl rfl b_neq rfl ?_)))))
    rw [decide_eq_false (by decide)]
    refine W_move rfl rfl (W_gyes rfl rfl (W_move rfl rfl (W_gyes rfl rfl (W_move rfl rfl (W_gyes rfl rfl ?_)))))
    refine W_callq (.cons rfl (.cons rfl .nil)) Tryz.call24 rfl (hF2.users (fun p hp=>by first | exact List.mem_append_left _ hp | exact List.mem_cons_of_mem _ (List.mem_append_left _ hp)) (p:=(p:Int))) ?_
    rw [hI2.us,cnt_us]
    refine W_gyes rfl rfl (W_move rfl rfl (W_gyes rfl rfl (W_bin rfl rfl (b_add (m:=((i+1:Nat):Int)) (i64w zO)) rfl ?_)))
    refine W_gyes rfl rfl ?_
    refine W_min2 (m:=if i+1<8 then ((i+1:Nat):Int) else 8) rfl rfl (by split <;> omega) rfl ?_
    refine W_gyes rfl rfl (W_bin rfl rfl b_neq rfl ?_)
    rw [decide_eq_false (fun h=>h rfl)]
    first | refine W_pickt rfl rfl rfl ?_ | refine W_pickf rfl rfl rfl ?_
    refine W_nil (W_condF rfl rfl (W_skip (W_blk (W_region (W_move rfl rfl (W_bin rfl rfl (b_add (m:=((i+1:Nat):Int)) ((i64w zO).trans zO)) rfl ?_))))))
    refine W_assign rfl rfl (W_nil ?_)
    refine W_again (i+1,(wkF F (i:Int) (p:Int)).1,HF2) ⟨by show i+1≤u; omega,hI2,hF2⟩ (by show u-(i+1)<u-i; omega) (sub_cons rfl (sub_cons rfl (sub_cons rfl (sub_cons rfl (sub_cons rfl (sub_nil _)))))) rfl zH
   ·skip
    have hwl:=(List.getElem?_eq_some_iff.1 hw).1
    obtain ⟨q1,p1,rfl,hcf⟩:=hrow.at (i:=i) (v:=.bool false) (by rw [List.getElem?_map,hw]; rfl)
    replace hw:¬ ws[i]?=some true:=by rw [hw]; decide
    refine W_move rfl rfl (W_move rfl rfl (W_len rfl ty53 rfl rfl ?_))
    refine W_bin rfl rfl b_lss rfl ?_
    rw [decide_eq_true (by omega)]
    refine W_move rfl rfl (W_gyes rfl rfl (W_move rfl rfl (W_gyes rfl rfl (W_move rfl rfl (W_gyes rfl rfl (W_indexAddr (j:=i) rfl rfl ty53 ty4 rfl hwl rfl rfl ?_))))))
    refine W_gyes rfl rfl ?_
    refine W_load (v:=.bool false) rfl ty4 rfl (by rw [Nat.mul_one]; exact hcf.up zH) rfl ?_
    first | refine W_pickt rfl rfl rfl ?_ | refine W_pickf rfl rfl rfl ?_
    refine W_nil (W_condF rfl rfl (W_seq (W_sr (W_move rfl rfl ?_))))
    obtain ⟨tb,hTq,hTi⟩:=hF.timers
    refine W_callq (.cons rfl .nil) Tryz.call21 rfl (hTq _ _ (fun p hp=>by first | exact List.mem_append_left _ hp | exact List.mem_cons_of_mem _ (List.mem_append_left _ hp))) ?_
    refine W_move rfl rfl (W_call (.cons rfl (.cons rfl .nil)) Tryz.call22 rfl ((hTi _ H (i:Int)).hsub (.refl _)) ?_)
    rintro v H' ⟨HF1,hF1,rfl,rfl⟩
    obtain ⟨ei,hI2,he⟩:=hI.call zO hpr hw
    rw [ei]
    refine W_bin rfl rfl b_neq rfl ?_
    first | rw [decide_eq_true (by omega)] | rw [decide_eq_false (by omega)]
    refine W_nil (W_condF rfl rfl (W_skip (W_region (W_move rfl rfl (W_move rfl rfl (W_move rfl rfl (W_call (.cons rfl (.cons rfl (.cons rfl .nil))) Tryz.call23 rfl ((hF1.callback (z:=(i:Int)) (p:=(p:Int)) (H:=H)).hsub (.refl _)) ?_)))))))
    rintro v H' ⟨HF2,hF2,rfl,rfl⟩
    rw [he,if_neg (show ¬ i<8 by omega)]
    refine W_assign rfl rfl (W_nil (W_sr (W_move rfl rfl (W_move rfl rfl (W_bin rfl rfl b_neq rfl ?_)))))
    rw [decide_eq_false (by decide)]
    refine W_move rfl rfl (W_gyes rfl rfl (W_move rfl rfl (W_gyes rfl rfl (W_move rfl rfl (W_gyes rfl rfl ?_)))))
    refine W_callq (.cons rfl (.cons rfl .nil)) Tryz.call24 rfl (hF2.users (fun p hp=>by first | exact List.mem_append_left _ hp | exact List.mem_cons_of_mem _ (List.mem_append_left _ hp)) (p:=(p:Int))) ?_
    rw [hI2.us,cnt_us]
    refine W_gyes rfl rfl (W_move rfl rfl (W_gyes rfl rfl (W_bin rfl rfl (b_add (m:=((i+1:Nat):Int)) (i64w zO)) rfl ?_)))
    refine W_gyes rfl rfl ?_
    refine W_min2 (m:=if i+1<8 then ((i+1:Nat):Int) else 8) rfl rfl (by split <;> omega) rfl ?_
    refine W_gyes rfl rfl (W_bin rfl rfl b_neq rfl ?_)
    rw [decide_eq_false (fun h=>h rfl)]
    first | refine W_pickt rfl rfl rfl ?_ | refine W_pickf rfl rfl rfl ?_
    refine W_nil (W_condF rfl rfl (W_skip (W_blk (W_region (W_move rfl rfl (W_bin rfl rfl (b_add (m:=((i+1:Nat):Int)) ((i64w zO).trans zO)) rfl ?_))))))
    refine W_assign rfl rfl (W_nil ?_)
    refine W_again (i+1,(cbF (inF F (i:Int)).1 (i:Int) (p:Int)).1,HF2) ⟨by show i+1≤u; omega,hI2,hF2⟩ (by show u-(i+1)<u-i; omega) (sub_cons rfl (sub_cons rfl (sub_cons rfl (sub_cons rfl (sub_cons rfl (sub_nil _)))))) rfl zH
  ·skip
   refine W_skip (W_sr (W_assign rfl rfl (W_nil (W_seq (W_sr ?_)))))
   rcases (show ¬ i<ws.length∨ws[i]?=some true∨ws[i]?=some false by by_cases h:i<ws.length; (obtain ⟨b,hb⟩:∃ b,ws[i]?=some b:=⟨_,List.getElem?_eq_getElem h⟩); (cases b; exact .inr (.inr hb); exact .inr (.inl hb)); exact .inl h) with hw | hw | hw
   ·skip
    replace hw:¬ ws[i]?=some true∧¬ i<ws.length:=⟨fun e=>hw (List.getElem?_eq_some_iff.1 e).1,hw⟩
    obtain ⟨hw,hwl⟩:=hw
    refine W_move rfl rfl (W_move rfl rfl (W_len rfl ty53 rfl rfl ?_))
    refine W_bin rfl rfl b_lss rfl ?_
    rw [decide_eq_false (by omega)]
    refine W_move rfl rfl (W_gno rfl rfl rfl ?_)
    refine W_gno rfl rfl rfl ?_
    refine W_gno rfl rfl rfl ?_
    refine W_gno rfl rfl rfl ?_
    first | refine W_pickt rfl rfl rfl ?_ | refine W_pickf rfl rfl rfl ?_
    refine W_nil (W_condF rfl rfl (W_seq (W_sr (W_move rfl rfl ?_))))
    obtain ⟨tb,hTq,hTi⟩:=hF.timers
    refine W_callq (.cons rfl .nil) Tryz.call21 rfl (hTq _ _ (fun p hp=>by first | exact List.mem_append_left _ hp | exact List.mem_cons_of_mem _ (List.mem_append_left _ hp))) ?_
    refine W_move rfl rfl (W_call (.cons rfl (.cons rfl .nil)) Tryz.call22 rfl ((hTi _ H (i:Int)).hsub (.refl _)) ?_)
    rintro v H' ⟨HF1,hF1,rfl,rfl⟩
    obtain ⟨ei,hI2,he⟩:=hI.call zO hpr hw
    rw [ei]
    refine W_bin rfl rfl b_neq rfl ?_
    first | rw [decide_eq_true (by omega)] | rw [decide_eq_false (by omega)]
    refine W_nil (W_condF rfl rfl (W_skip (W_region (W_move rfl rfl (W_move rfl rfl (W_move rfl rfl (W_call (.cons rfl (.cons rfl (.cons rfl .nil))) Tryz.call23 rfl ((hF1.callback (z:=(i:Int)) (p:=(p:Int)) (H:=H)).hsub (.refl _)) ?_)))))))
    rintro v H' ⟨HF2,hF2,rfl,rfl⟩
    rw [he,if_pos (show i<8 by omega)]
    refine W_assign rfl rfl (W_nil (W_sr (W_move rfl rfl (W_move rfl rfl (W_bin rfl rfl b_neq rfl ?_)))))
    rw [decide_eq_false (by decide)]
    refine W_move rfl rfl (W_gyes rfl rfl (W_move rfl rfl (W_gyes rfl rfl (W_move rfl rfl (W_gyes rfl rfl ?_)))))
    refine W_callq (.cons rfl (.cons rfl .nil)) Tryz.call24 rfl (hF2.users (fun p hp=>by first | exact List.mem_append_left _ hp | exact List.mem_cons_of_mem _ (List.mem_append_left _ hp)) (p:=(p:Int))) ?_
    rw [hI2.us,cnt_us]
    refine W_gyes rfl rfl (W_move rfl rfl (W_gyes rfl rfl (W_bin rfl rfl (b_add (m:=((i+1:Nat):Int)) (i64w zO)) rfl ?_)))
    refine W_gyes rfl rfl ?_
    refine W_min2 (m:=if i+1<8 then ((i+1:Nat):Int) else 8) rfl rfl (by split <;> omega) rfl ?_
    refine W_gyes rfl rfl (W_bin rfl rfl b_neq rfl ?_)
    rw [decide_eq_false (fun h=>h rfl)]
    first | refine W_pickt rfl rfl rfl ?_ | refine W_pickf rfl rfl rfl ?_
    refine W_nil (W_condF rfl rfl (W_skip (W_blk (W_region (W_move rfl rfl (W_bin rfl rfl (b_add (m:=((i+1:Nat):Int)) ((i64w zO).trans zO)) rfl ?_))))))
    refine W_assign rfl rfl (W_nil ?_)
    refine W_again (i+1,(cbF (inF F (i:Int)).1 (i:Int) (p:Int)).1,HF2) ⟨by show i+1≤u; omega,hI2,hF2⟩ (by show u-(i+1)<u-i; omega) (sub_cons rfl (sub_cons rfl (sub_cons rfl (sub_cons rfl (sub_cons rfl (sub_nil _)))))) rfl zH
   ·skip
    have hwl:=(List.getElem?_eq_some_iff.1 hw).1
    obtain ⟨q1,p1,rfl,hcf⟩:=hrow.at (i:=i) (v:=.bool true) (by rw [List.getElem?_map,hw]; rfl)
    refine W_move rfl rfl (W_move rfl rfl (W_len rfl ty53 rfl rfl ?_))
    refine W_bin rfl rfl b_lss rfl ?_
    rw [decide_eq_true (by omega)]
    refine W_move rfl rfl (W_gyes rfl rfl (W_move rfl rfl (W_gyes rfl rfl (W_move rfl rfl (W_gyes rfl rfl (W_indexAddr (j:=i) rfl rfl ty53 ty4 rfl hwl rfl rfl ?_))))))
    refine W_gyes rfl rfl ?_
    refine W_load (v:=.bool true) rfl ty4 rfl (by rw [Nat.mul_one]; exact hcf.up zH) rfl ?_
    first | refine W_pickt rfl rfl rfl ?_ | refine W_pickf rfl rfl rfl ?_
    refine W_nil (W_condT rfl rfl (W_region (W_move rfl rfl (W_move rfl rfl (W_move rfl rfl (W_call (.cons rfl (.cons rfl (.cons rfl .nil))) Tryz.call20 rfl ((hF.work (z:=(i:Int)) (p:=(p:Int)) (H:=H)).hsub (.refl _)) ?_))))))
    rintro v H' ⟨HF2,hF2,rfl,rfl⟩
    obtain ⟨hI2,he⟩:=hI.work zO hpr hw
    rw [he,if_pos (show i<8 by omega)]
    refine W_assign rfl rfl (W_nil (W_sr (W_move rfl rfl (W_move rfl rfl (W_bin rfl rfl b_neq rfl ?_)))))
    rw [decide_eq_false (by decide)]
    refine W_move rfl rfl (W_gyes rfl rfl (W_move rfl rfl (W_gyes rfl rfl (W_move rfl rfl (W_gyes rfl rfl ?_)))))
    refine W_callq (.cons rfl (.cons rfl .nil)) Tryz.call24 rfl (hF2.users (fun p hp=>by first | exact List.mem_append_left _ hp | exact List.mem_cons_of_mem _ (List.mem_append_left _ hp)) (p:=(p:Int))) ?_
    rw [hI2.us,cnt_us]
    refine W_gyes rfl rfl (W_move rfl rfl (W_gyes rfl rfl (W_bin rfl rfl (b_add (m:=((i+1:Nat):Int)) (i64w zO)) rfl ?_)))
    refine W_gyes rfl rfl ?_
    refine W_min2 (m:=if i+1<8 then ((i+1:Nat):Int) else 8) rfl rfl (by split <;> omega) rfl ?_
    refine W_gyes rfl rfl (W_bin rfl rfl b_neq rfl ?_)
    rw [decide_eq_false (fun h=>h rfl)]
    first | refine W_pickt rfl rfl rfl ?_ | refine W_pickf rfl rfl rfl ?_
    refine W_nil (W_condF rfl rfl (W_skip (W_blk (W_region (W_move rfl rfl (W_bin rfl rfl (b_add (m:=((i+1:Nat):Int)) ((i64w zO).trans zO)) rfl ?_))))))
    refine W_assign rfl rfl (W_nil ?_)
    refine W_again (i+1,(wkF F (i:Int) (p:Int)).1,HF2) ⟨by show i+1≤u; omega,hI2,hF2⟩ (by show u-(i+1)<u-i; omega) (sub_cons rfl (sub_cons rfl (sub_cons rfl (sub_cons rfl (sub_cons rfl (sub_nil _)))))) rfl zH
   ·skip
    have hwl:=(List.getElem?_eq_some_iff.1 hw).1
    obtain ⟨q1,p1,rfl,hcf⟩:=hrow.at (i:=i) (v:=.bool false) (by rw [List.getElem?_map,hw]; rfl)
    replace hw:¬ ws[i]?=some true:=by rw [hw]; decide
    refine W_move rfl rfl (W_move rfl rfl (W_len rfl ty53 rfl rfl ?_))
    refine W_bin rfl rfl b_lss rfl ?_
    rw [decide_eq_true (by omega)]
    refine W_move rfl rfl (W_gyes rfl rfl (W_move rfl rfl (W_gyes rfl rfl (W_move rfl rfl (W_gyes rfl rfl (W_indexAddr (j:=i) rfl rfl ty53 ty4 rfl hwl rfl rfl ?_))))))
    refine W_gyes rfl rfl ?_
    refine W_load (v:=.bool false) rfl ty4 rfl (by rw [Nat.mul_one]; exact hcf.up zH) rfl ?_
    first | refine W_pickt rfl rfl rfl ?_ | refine W_pickf rfl rfl rfl ?_
    refine W_nil (W_condF rfl rfl (W_seq (W_sr (W_move rfl rfl ?_))))
    obtain ⟨tb,hTq,hTi⟩:=hF.timers
    refine W_callq (.cons rfl .nil) Tryz.call21 rfl (hTq _ _ (fun p hp=>by first | exact List.mem_append_left _ hp | exact List.mem_cons_of_mem _ (List.mem_append_left _ hp))) ?_
    refine W_move rfl rfl (W_call (.cons rfl (.cons rfl .nil)) Tryz.call22 rfl ((hTi _ H (i:Int)).hsub (.refl _)) ?_)
    rintro v H' ⟨HF1,hF1,rfl,rfl⟩
    obtain ⟨ei,hI2,he⟩:=hI.call zO hpr hw
    rw [ei]
    refine W_bin rfl rfl b_neq rfl ?_
    first | rw [decide_eq_true (by omega)] | rw [decide_eq_false (by omega)]
    refine W_nil (W_condF rfl rfl (W_skip (W_region (W_move rfl rfl (W_move rfl rfl (W_move rfl rfl (W_call (.cons rfl (.cons rfl (.cons rfl .nil))) Tryz.call23 rfl ((hF1.callback (z:=(i:Int)) (p:=(p:Int)) (H:=H)).hsub (.refl _)) ?_)))))))
    rintro v H' ⟨HF2,hF2,rfl,rfl⟩
    rw [he,if_pos (show i<8 by omega)]
    refine W_assign rfl rfl (W_nil (W_sr (W_move rfl rfl (W_move rfl rfl (W_bin rfl rfl b_neq rfl ?_)))))
    rw [decide_eq_false (by decide)]
    refine W_move rfl rfl (W_gyes rfl rfl (W_move rfl rfl (W_gyes rfl rfl (W_move rfl rfl (W_gyes rfl rfl ?_)))))
    refine W_callq (.cons rfl (.cons rfl .nil)) Tryz.call24 rfl (hF2.users (fun p hp=>by first | exact List.mem_append_left _ hp | exact List.mem_cons_of_mem _ (List.mem_append_left _ hp)) (p:=(p:Int))) ?_
    rw [hI2.us,cnt_us]
    refine W_gyes rfl rfl (W_move rfl rfl (W_gyes rfl rfl (W_bin rfl rfl (b_add (m:=((i+1:Nat):Int)) (i64w zO)) rfl ?_)))
    refine W_gyes rfl rfl ?_
    refine W_min2 (m:=if i+1<8 then ((i+1:Nat):Int) else 8) rfl rfl (by split <;> omega) rfl ?_
    refine W_gyes rfl rfl (W_bin rfl rfl b_neq rfl ?_)
    rw [decide_eq_false (fun h=>h rfl)]
    first | refine W_pickt rfl rfl rfl ?_ | refine W_pickf rfl rfl rfl ?_
    refine W_nil (W_condF rfl rfl (W_skip (W_blk (W_region (W_move rfl rfl (W_bin rfl rfl (b_add (m:=((i+1:Nat):Int)) ((i64w zO).trans zO)) rfl ?_))))))
    refine W_assign rfl rfl (W_nil ?_)
    refine W_again (i+1,(cbF (inF F (i:Int)).1 (i:Int) (p:Int)).1,HF2) ⟨by show i+1≤u; omega,hI2,hF2⟩ (by show u-(i+1)<u-i; omega) (sub_cons rfl (sub_cons rfl (sub_cons rfl (sub_cons rfl (sub_cons rfl (sub_nil _)))))) rfl zH
 ·skip
  refine W_exit rfl ?_
  refine W_seq (W_sr (W_move rfl rfl (W_bin rfl rfl b_eql rfl ?_)))
  refine W_nil ?_
  refine W_condPS (p:=(u:Int)=0) rfl (by simp) (fun c1=>?_) (fun c1=>?_)
  ·skip
   refine W_sr (W_callp .nil Tryz.call19 rfl hT lknown_pure ?_)
   refine W_move rfl rfl (W_gyes rfl rfl (W_move rfl rfl (W_gyes rfl rfl (W_move rfl rfl (W_gyes rfl rfl ?_)))))
   refine W_callq (.cons rfl (.cons rfl .nil)) Tryz.call24 rfl (hF.users (fun p hp=>by first | exact List.mem_append_left _ hp | exact List.mem_cons_of_mem _ (List.mem_append_left _ hp)) (p:=(p:Int))) ?_
   rw [hI.us,cnt_us,if_pos (show i<8 by omega)]
   refine W_gyes rfl rfl (W_bin rfl rfl b_eql rfl ?_)
   first | rw [decide_eq_true (by omega)] | rw [decide_eq_false (by omega)]
   first | refine W_pickt rfl rfl rfl ?_ | refine W_pickf rfl rfl rfl ?_
   refine W_assign rfl rfl (W_nil (W_ret1m (H2:=H) Tryz.results4 rfl (.nil _) zH ?_))
   exact ⟨rfl,rfl⟩
  ·skip
   refine W_skip (W_sr (W_move rfl rfl ?_))
   refine W_bin rfl rfl (b_add (m:=((p+1:Nat):Int)) (by rw [i64w (by omega)]; omega)) rfl ?_
   obtain ⟨q,hq16,hq,hqp⟩:∃ q:Nat,q<16∧((p+1:Nat):Int).tmod 16=(q:Int)∧(q:Int)≠(p:Int):=⟨(p+1)%16,by omega,by rw [Int.tmod_eq_emod_of_nonneg (by omega)]; omega,by omega⟩
   have hqr:0≤(q:Int)∧(q:Int)<16:=⟨by omega,by omega⟩
   refine W_bin rfl rfl (b_rem zd (m:=(q:Int)) hq) rfl ?_
   refine W_assign rfl rfl (W_nil (W_sr (W_assign rfl rfl (W_nil (W_seq (W_sr ?_))))))
   rcases (show ¬ 0<ws.length∨ws[0]?=some true∨ws[0]?=some false by by_cases h:0<ws.length; (obtain ⟨b,hb⟩:∃ b,ws[0]?=some b:=⟨_,List.getElem?_eq_getElem h⟩); (cases b; exact .inr (.inr hb); exact .inr (.inl hb)); exact .inl h) with hw | hw | hw
   ·skip
    replace hw:¬ ws[0]?=some true∧¬ 0<ws.length:=⟨fun e=>hw (List.getElem?_eq_some_iff.1 e).1,hw⟩
    obtain ⟨hw,hwl⟩:=hw
    refine W_move rfl rfl (W_len rfl ty53 rfl rfl ?_)
    refine W_bin rfl rfl b_gtr rfl ?_
    rw [decide_eq_false (by omega)]
    refine W_move rfl rfl (W_gno rfl rfl rfl ?_)
    refine W_gno rfl rfl rfl ?_
    refine W_gno rfl rfl rfl ?_
    first | refine W_pickt rfl rfl rfl ?_ | refine W_pickf rfl rfl rfl ?_
    refine W_nil (W_condF rfl rfl (W_region (W_move rfl rfl (W_move rfl rfl (W_call (.cons rfl (.cons rfl (.cons rfl .nil))) Tryz.call23 rfl ((hF.callback (z:=0) (p:=(q:Int)) (H:=H)).hsub (.refl _)) ?_)))))
    rintro v H' ⟨HF2,hF2,rfl,rfl⟩
    obtain ⟨hE,hEq,hEp⟩:=hI.end_c zO hpr hqr hqp hw
    rw [hE]
    refine W_assign rfl rfl (W_nil (W_sr (W_move rfl rfl (W_bin rfl rfl (b_sub (m:=(u:Int)-1) (i64w zO)) rfl ?_))))
    refine W_assign rfl rfl (W_nil (W_seq (W_sr (W_move rfl rfl (W_bin rfl rfl b_gtr rfl ?_)))))
    refine W_nil ?_
    refine W_condPS (p:=(8:Int)<(u:Int)) rfl (by simp) (fun c2=>?_) (fun c2=>?_)
    ·skip
     refine W_region (W_assign rfl rfl (W_nil (W_sr (W_callp .nil Tryz.call19 rfl hT lknown_pure ?_))))
     refine W_move rfl rfl (W_gyes rfl rfl (W_move rfl rfl (W_gyes rfl rfl (W_bin rfl rfl b_eql rfl ?_))))
     first | rw [decide_eq_true (by omega)] | rw [decide_eq_false (by omega)]
     first | refine W_pickt rfl rfl rfl ?_ | refine W_pickf rfl rfl rfl ?_
     refine W_move rfl rfl (W_gyes rfl rfl (W_move rfl rfl (W_gyes rfl rfl (W_move rfl rfl (W_gyes rfl rfl ?_)))))
     refine W_callq (.cons rfl (.cons rfl .nil)) Tryz.call24 rfl (hF2.users (fun p hp=>by first | exact List.mem_append_left _ hp | exact List.mem_cons_of_mem _ (List.mem_append_left _ hp)) (p:=(q:Int))) ?_
     rw [hEq]
     refine W_gyes rfl rfl (W_bin rfl rfl b_eql rfl ?_)
     first | rw [decide_eq_true (by omega)] | rw [decide_eq_false (by omega)]
     first | refine W_pickt rfl rfl rfl ?_ | refine W_pickf rfl rfl rfl ?_
     refine W_move rfl rfl (W_gyes rfl rfl (W_move rfl rfl (W_gyes rfl rfl (W_move rfl rfl (W_gyes rfl rfl ?_)))))
     refine W_callq (.cons rfl (.cons rfl .nil)) Tryz.call24 rfl (hF2.users (fun p hp=>by first | exact List.mem_append_left _ hp | exact List.mem_cons_of_mem _ (List.mem_append_left _ hp)) (p:=(p:Int))) ?_
     rw [hEp,if_pos (show 8<i by omega)]
     refine W_gyes rfl rfl (W_move rfl rfl (W_gyes rfl rfl (W_bin rfl rfl b_eql rfl ?_)))
     first | rw [decide_eq_true (by omega)] | rw [decide_eq_false (by omega)]
     first | refine W_pickt rfl rfl rfl ?_ | refine W_pickf rfl rfl rfl ?_
     refine W_assign rfl rfl (W_nil (W_ret1m (H2:=H) Tryz.results4 rfl (.nil _) zH ?_))
     exact ⟨rfl,rfl⟩
    ·skip
     refine W_skip (W_sr (W_callp .nil Tryz.call19 rfl hT lknown_pure ?_))
     refine W_move rfl rfl (W_gyes rfl rfl (W_move rfl rfl (W_gyes rfl rfl (W_bin rfl rfl b_eql rfl ?_))))
     first | rw [decide_eq_true (by omega)] | rw [decide_eq_false (by omega)]
     first | refine W_pickt rfl rfl rfl ?_ | refine W_pickf rfl rfl rfl ?_
     refine W_move rfl rfl (W_gyes rfl rfl (W_move rfl rfl (W_gyes rfl rfl (W_move rfl rfl (W_gyes rfl rfl ?_)))))
     refine W_callq (.cons rfl (.cons rfl .nil)) Tryz.call24 rfl (hF2.users (fun p hp=>by first | exact List.mem_append_left _ hp | exact List.mem_cons_of_mem _ (List.mem_append_left _ hp)) (p:=(q:Int))) ?_
     rw [hEq]
     refine W_gyes rfl rfl (W_bin rfl rfl b_eql rfl ?_)
     first | rw [decide_eq_true (by omega)] | rw [decide_eq_false (by omega)]
     first | refine W_pickt rfl rfl rfl ?_ | refine W_pickf rfl rfl rfl ?_
     refine W_move rfl rfl (W_gyes rfl rfl (W_move rfl rfl (W_gyes rfl rfl (W_move rfl rfl (W_gyes rfl rfl ?_)))))
     refine W_callq (.cons rfl (.cons rfl .nil)) Tryz.call24 rfl (hF2.users (fun p hp=>by first | exact List.mem_append_left _ hp | exact List.mem_cons_of_mem _ (List.mem_append_left _ hp)) (p:=(p:Int))) ?_
     rw [hEp,if_neg (show ¬ 8<i by omega)]
     refine W_gyes rfl rfl (W_move rfl rfl (W_gyes rfl rfl (W_bin rfl rfl b_eql rfl ?_)))
     first | rw [decide_eq_true (by omega)] | rw [decide_eq_false (by omega)]
     first | refine W_pickt rfl rfl rfl ?_ | refine W_pickf rfl rfl rfl ?_
     refine W_assign rfl rfl (W_nil (W_ret1m (H2:=H) Tryz.results4 rfl (.nil _) zH ?_))
     exact ⟨rfl,rfl⟩
   ·skip
    have hwl:=(List.getElem?_eq_some_iff.1 hw).1
    obtain ⟨q1,p1,rfl,hcf⟩:=hrow.at (i:=0) (v:=.bool true) (by rw [List.getElem?_map,hw]; rfl)
    refine W_move rfl rfl (W_len rfl ty53 rfl rfl ?_)
    refine W_bin rfl rfl b_gtr rfl ?_
    rw [decide_eq_true (by omega)]
    refine W_move rfl rfl (W_gyes rfl rfl (W_move rfl rfl (W_gyes rfl rfl (W_indexAddr (j:=0) rfl rfl ty53 ty4 rfl hwl rfl rfl ?_))))
    refine W_gyes rfl rfl ?_
    refine W_load (v:=.bool true) rfl ty4 rfl (by rw [Nat.mul_one]; exact hcf.up zH) rfl ?_
    first | refine W_pickt rfl rfl rfl ?_ | refine W_pickf rfl rfl rfl ?_
    refine W_nil (W_condT rfl rfl (W_region (W_move rfl rfl (W_move rfl rfl (W_call (.cons rfl (.cons rfl (.cons rfl .nil))) Tryz.call20 rfl ((hF.work (z:=0) (p:=(q:Int)) (H:=H)).hsub (.refl _)) ?_)))))
    rintro v H' ⟨HF2,hF2,rfl,rfl⟩
    obtain ⟨hE,hEq,hEp⟩:=hI.end_w zO hpr hqr hqp hw
    rw [hE]
    refine W_assign rfl rfl (W_nil (W_sr (W_move rfl rfl (W_bin rfl rfl (b_sub (m:=(u:Int)-1) (i64w zO)) rfl ?_))))
    refine W_assign rfl rfl (W_nil (W_seq (W_sr (W_move rfl rfl (W_bin rfl rfl b_gtr rfl ?_)))))
    refine W_nil ?_
    refine W_condPS (p:=(8:Int)<(u:Int)) rfl (by simp) (fun c2=>?_) (fun c2=>?_)
    ·skip
     refine W_region (W_assign rfl rfl (W_nil (W_sr (W_callp .nil Tryz.call19 rfl hT lknown_pure ?_))))
     refine W_move rfl rfl (W_gyes rfl rfl (W_move rfl rfl (W_gyes rfl rfl (W_bin rfl rfl b_eql rfl ?_))))
     first | rw [decide_eq_true (by omega)] | rw [decide_eq_false (by omega)]
     first | refine W_pickt rfl rfl rfl ?_ | refine W_pickf rfl rfl rfl ?_
     refine W_move rfl rfl (W_gyes rfl rfl (W_move rfl rfl (W_gyes rfl rfl (W_move rfl rfl (W_gyes rfl rfl ?_)))))
     refine W_callq (.cons rfl (.cons rfl .nil)) Tryz.call24 rfl (hF2.users (fun p hp=>by first | exact List.mem_append_left _ hp | exact List.mem_cons_of_mem _ (List.mem_append_left _ hp)) (p:=(q:Int))) ?_
     rw [hEq]
     refine W_gyes rfl rfl (W_bin rfl rfl b_eql rfl ?_)
     first | rw [decide_eq_true (by omega)] | rw [decide_eq_false (by omega)]
     first | refine W_pickt rfl rfl rfl ?_ | refine W_pickf rfl rfl rfl ?_
     refine W_move rfl rfl (W_gyes rfl rfl (W_move rfl rfl (W_gyes rfl rfl (W_move rfl rfl (W_gyes rfl rfl ?_)))))
     refine W_callq (.cons rfl (.cons rfl .nil)) Tryz.call24 rfl (hF2.users (fun p hp=>by first | exact List.mem_append_left _ hp | exact List.mem_cons_of_mem _ (List.mem_append_left _ hp)) (p:=(p:Int))) ?_
     rw [hEp,if_pos (show 8<i by omega)]
     refine W_gyes rfl rfl (W_move rfl rfl (W_gyes rfl rfl (W_bin rfl rfl b_eql rfl ?_)))
     first | rw [decide_eq_true (by omega)] | rw [decide_eq_false (by omega)]
     first | refine W_pickt rfl rfl rfl ?_ | refine W_pickf rfl rfl rfl ?_
     refine W_assign rfl rfl (W_nil (W_ret1m (H2:=H) Tryz.results4 rfl (.nil _) zH ?_))
     exact ⟨rfl,rfl⟩
    ·skip
     refine W_skip (W_sr (W_callp .nil Tryz.call19 rfl hT lknown_pure ?_))
     refine W_move rfl rfl (W_gyes rfl rfl (W_move rfl rfl (W_gyes rfl rfl (W_bin rfl rfl b_eql rfl ?_))))
     first | rw [decide_eq_true (by omega)] | rw [decide_eq_false (by omega)]
     first | refine W_pickt rfl rfl rfl ?_ | refine W_pickf rfl rfl rfl ?_
     refine W_move rfl rfl (W_gyes rfl rfl (W_move rfl rfl (W_gyes rfl rfl (W_move rfl rfl (W_gyes rfl rfl ?_)))))
     refine W_callq (.cons rfl (.cons rfl .nil)) Tryz.call24 rfl (hF2.users (fun p hp=>by first | exact List.mem_append_left _ hp | exact List.mem_cons_of_mem _ (List.mem_append_left _ hp)) (p:=(q:Int))) ?_
     rw [hEq]
     refine W_gyes rfl rfl (W_bin rfl rfl b_eql rfl ?_)
     first | rw [decide_eq_true (by omega)] | rw [decide_eq_false (by omega)]
     first | refine W_pickt rfl rfl rfl ?_ | refine W_pickf rfl rfl rfl ?_
     refine W_move rfl rfl (W_gyes rfl rfl (W_move rfl rfl (W_gyes rfl rfl (W_move rfl rfl (W_gyes rfl rfl ?_)))))
     refine W_callq (.cons rfl (.cons rfl .nil)) Tryz.call24 rfl (hF2.users (fun p hp=>by first | exact List.mem_append_left _ hp | exact List.mem_cons_of_mem _ (List.mem_append_left _ hp)) (p:=(p:Int))) ?_
     rw [hEp,if_neg (show ¬ 8<i by omega)]
     refine W_gyes rfl rfl (W_move rfl rfl (W_gyes rfl rfl (W_bin rfl rfl b_eql rfl ?_)))
     first | rw [decide_eq_true (by omega)] | rw [decide_eq_false (by omega)]
     first | refine W_pickt rfl rfl rfl ?_ | refine W_pickf rfl rfl rfl ?_
     refine W_assign rfl rfl (W_nil (W_ret1m (H2:=H) Tryz.results4 rfl (.nil _) zH ?_))
     exact ⟨rfl,rfl⟩
   ·skip
    have hwl:=(List.getElem?_eq_some_iff.1 hw).1
    obtain ⟨q1,p1,rfl,hcf⟩:=hrow.at (i:=0) (v:=.bool false) (by rw [List.getElem?_map,hw]; rfl)
    replace hw:¬ ws[0]?=some true:=by rw [hw]; decide
    refine W_move rfl rfl (W_len rfl ty53 rfl rfl ?_)
    refine W_bin rfl rfl b_gtr rfl ?_
    rw [decide_eq_true (by omega)]
    refine W_move rfl rfl (W_gyes rfl rfl (W_move rfl rfl (W_gyes rfl rfl (W_indexAddr (j:=0) rfl rfl ty53 ty4 rfl hwl rfl rfl ?_))))
    refine W_gyes rfl rfl ?_
    refine W_load (v:=.bool false) rfl ty4 rfl (by rw [Nat.mul_one]; exact hcf.up zH) rfl ?_
    first | refine W_pickt rfl rfl rfl ?_ | refine W_pickf rfl rfl rfl ?_
    refine W_nil (W_condF rfl rfl (W_region (W_move rfl rfl (W_move rfl rfl (W_call (.cons rfl (.cons rfl (.cons rfl .nil))) Tryz.call23 rfl ((hF.callback (z:=0) (p:=(q:Int)) (H:=H)).hsub (.refl _)) ?_)))))
    rintro v H' ⟨HF2,hF2,rfl,rfl⟩
    obtain ⟨hE,hEq,hEp⟩:=hI.end_c zO hpr hqr hqp hw
    rw [hE]
    refine W_assign rfl rfl (W_nil (W_sr (W_move rfl rfl (W_bin rfl rfl (b_sub (m:=(u:Int)-1) (i64w zO)) rfl ?_))))
    refine W_assign rfl rfl (W_nil (W_seq (W_sr (W_move rfl rfl (W_bin rfl rfl b_gtr rfl ?_)))))
    refine W_nil ?_
    refine W_condPS (p:=(8:Int)<(u:Int)) rfl (by simp) (fun c2=>?_) (fun c2=>?_)
    ·skip
     refine W_region (W_assign rfl rfl (W_nil (W_sr (W_callp .nil Tryz.call19 rfl hT lknown_pure ?_))))
     refine W_move rfl rfl (W_gyes rfl rfl (W_move rfl rfl (W_gyes rfl rfl (W_bin rfl rfl b_eql rfl ?_))))
     first | rw [decide_eq_true (by omega)] | rw [decide_eq_false (by omega)]
     first | refine W_pickt rfl rfl rfl ?_ | refine W_pickf rfl rfl rfl ?_
     refine W_move rfl rfl (W_gyes rfl rfl (W_move rfl rfl (W_gyes rfl rfl (W_move rfl rfl (W_gyes rfl rfl ?_)))))
     refine W_callq (.cons rfl (.cons rfl .nil)) Tryz.call24 rfl (hF2.users (fun p hp=>by first | exact List.mem_append_left _ hp | exact List.mem_cons_of_mem _ (List.mem_append_left _ hp)) (p:=(q:Int))) ?_
     rw [hEq]
     refine W_gyes rfl rfl (W_bin rfl rfl b_eql rfl ?_)
     first | rw [decide_eq_true (by omega)] | rw [decide_eq_false (by omega)]
     first | refine W_pickt rfl rfl rfl ?_ | refine W_pickf rfl rfl rfl ?_
     refine W_move rfl rfl (W_gyes rfl rfl (W_move rfl rfl (W_gyes rfl rfl (W_move rfl rfl (W_gyes rfl rfl ?_)))))
     refine W_callq (.cons rfl (.cons rfl .nil)) Tryz.call24 rfl (hF2.users (fun p hp=>by first | exact List.mem_append_left _ hp | exact List.mem_cons_of_mem _ (List.mem_append_left _ hp)) (p:=(p:Int))) ?_
     rw [hEp,if_pos (show 8<i by omega)]
     refine W_gyes rfl rfl (W_move rfl rfl (W_gyes rfl rfl (W_bin rfl rfl b_eql rfl ?_)))
     first | rw [decide_eq_true (by omega)] | rw [decide_eq_false (by omega)]
     first | refine W_pickt rfl rfl rfl ?_ | refine W_pickf rfl rfl rfl ?_
     refine W_assign rfl rfl (W_nil (W_ret1m (H2:=H) Tryz.results4 rfl (.nil _) zH ?_))
     exact ⟨rfl,rfl⟩
    ·skip
     refine W_skip (W_sr (W_callp .nil Tryz.call19 rfl hT lknown_pure ?_))
     refine W_move rfl rfl (W_gyes rfl rfl (W_move rfl rfl (W_gyes rfl rfl (W_bin rfl rfl b_eql rfl ?_))))
     first | rw [decide_eq_true (by omega)] | rw [decide_eq_false (by omega)]
     first | refine W_pickt rfl rfl rfl ?_ | refine W_pickf rfl rfl rfl ?_
     refine W_move rfl rfl (W_gyes rfl rfl (W_move rfl rfl (W_gyes rfl rfl (W_move rfl rfl (W_gyes rfl rfl ?_)))))
     refine W_callq (.cons rfl (.cons rfl .nil)) Tryz.call24 rfl (hF2.users (fun p hp=>by first | exact List.mem_append_left _ hp | exact List.mem_cons_of_mem _ (List.mem_append_left _ hp)) (p:=(q:Int))) ?_
     rw [hEq]
     refine W_gyes rfl rfl (W_bin rfl rfl b_eql rfl ?_)
     first | rw [decide_eq_true (by omega)] | rw [decide_eq_false (by omega)]
     first | refine W_pickt rfl rfl rfl ?_ | refine W_pickf rfl rfl rfl ?_
     refine W_move rfl rfl (W_gyes rfl rfl (W_move rfl rfl (W_gyes rfl rfl (W_move rfl rfl (W_gyes rfl rfl ?_)))))
     refine W_callq (.cons rfl (.cons rfl .nil)) Tryz.call24 rfl (hF2.users (fun p hp=>by first | exact List.mem_append_left _ hp | exact List.mem_cons_of_mem _ (List.mem_append_left _ hp)) (p:=(p:Int))) ?_
     rw [hEp,if_neg (show ¬ 8<i by omega)]
     refine W_gyes rfl rfl (W_move rfl rfl (W_gyes rfl rfl (W_bin rfl rfl b_eql rfl ?_)))
     first | rw [decide_eq_true (by omega)] | rw [decide_eq_false (by omega)]
     first | refine W_pickt rfl rfl rfl ?_ | refine W_pickf rfl rfl rfl ?_
     refine W_assign rfl rfl (W_nil (W_ret1m (H2:=H) Tryz.results4 rfl (.nil _) zH ?_))
     exact ⟨rfl,rfl⟩
theorem lifeUses_pure {pr us:Int} {ws:List Bool} {adw:Option Addr} {capw:Nat} (hlen:ws.length≤9223372036854775807):Pure Tryz.prog (fun w=>Tab w∧InRow w adw (ws.map Value.bool)) 4 [.int .i64 pr,.int .i64 us,.slice adw ws.length capw] (.bool true):=fun w0 H hT=>lifeUses_L (Holds.old hT.2) hlen hT.1
end Go.Proofs.YtincjohoncljoaaGreatDoor
