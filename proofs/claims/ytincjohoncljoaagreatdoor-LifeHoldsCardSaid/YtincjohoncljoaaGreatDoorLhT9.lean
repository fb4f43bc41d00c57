/-
  Own work: contracts of functions that the statement reaches, and plain facts on what they compute; each theorem says its conditions.
-/
import Derived.Test.YtincjohoncljoaaGreatDoorLhT8
import Derived.Test.YtincjohoncljoaaGreatDoorLhS1
import Derived.Test.YtincjohoncljoaaGreatDoorLhS2
import Derived.Test.YtincjohoncljoaaGreatDoorLhA
set_option linter.all false
set_option linter.unusedSimpArgs false
set_option linter.unusedVariables false
set_option maxHeartbeats 16000000
namespace Go.Proofs.YtincjohoncljoaaGreatDoor
open Go Go.Sl
attribute [local irreducible] W
set_option maxRecDepth 100000
structure qdV where
 kind:Int
 m:Int
 how:Int
 a:Int
 b:Int
 key:Int
 word:Int
deriving DecidableEq
def laC (v:qdV):List Value:=[zi v.kind,zi v.m,zi v.how,zi v.a,zi v.b,zu v.key,zu v.word]
instance:Inhabited qdV:=⟨⟨0,0,0,0,0,0,0⟩⟩
def qdV.In (v:qdV):Prop:=(-9223372036854775808≤v.kind∧v.kind≤9223372036854775807)∧(-9223372036854775808≤v.m∧v.m≤9223372036854775807)∧(-9223372036854775808≤v.how∧v.how≤9223372036854775807)∧(-9223372036854775808≤v.a∧v.a≤9223372036854775807)∧(-9223372036854775808≤v.b∧v.b≤9223372036854775807)∧(0≤v.key∧v.key≤18446744073709551615)∧(0≤v.word∧v.word≤18446744073709551615)
theorem qeZ (v:qdV):(laC v).length=7:=rfl
theorem qmM {cs:List Value} (h:YK [.int .i64,.int .i64,.int .i64,.int .i64,.int .i64,.int .u64,.int .u64] cs):∃ v:qdV,cs=laC v∧v.In:=by
 obtain ⟨a0,c0,rfl,⟨m0,rfl,e0⟩,h0⟩:=ZJ h
 obtain ⟨a1,c1,rfl,⟨m1,rfl,e1⟩,h1⟩:=ZJ h0
 obtain ⟨a2,c2,rfl,⟨m2,rfl,e2⟩,h2⟩:=ZJ h1
 obtain ⟨a3,c3,rfl,⟨m3,rfl,e3⟩,h3⟩:=ZJ h2
 obtain ⟨a4,c4,rfl,⟨m4,rfl,e4⟩,h4⟩:=ZJ h3
 obtain ⟨a5,c5,rfl,⟨m5,rfl,e5⟩,h5⟩:=ZJ h4
 obtain ⟨a6,c6,rfl,⟨m6,rfl,e6⟩,h6⟩:=ZJ h5
 obtain rfl:=qfP h6
 exact ⟨⟨m0,m1,m2,m3,m4,m5,m6⟩,rfl,⟨e0,e1,e2,e3,e4,e5,e6⟩⟩
structure HoS where
 i:Nat
 T:Nat
 F:Lf
 HF:qe
 x:Xm
 sl:List Int
 wl:List Int
 dl:List Bool
 st:Int
 ut:Int→Int
 uc:Int→Int
theorem z28:∃ wl:List Int,wl=List.replicate 8192 0∧((Tryz.t28.zero).getD undef).cells.toList=wl.map (Value.int .i64):=⟨_,rfl,by kernel_rfl⟩
theorem z27:∃ sl:List Int,sl=List.replicate 128 0∧((Tryz.t27.zero).getD undef).cells.toList=sl.map (Value.int .i64):=⟨_,rfl,by kernel_rfl⟩
theorem key8 (k:Int) (h:0≤k):∃ n:Nat,n<8∧k.tmod 8=(n:Int):=⟨(k%8).toNat,by omega,by rw [Int.tmod_eq_emod_of_nonneg h]; omega⟩
theorem qf8 {dl:List Bool} {l:List Int} {k:Nat} {z:Nat} (h:l[k]?=some (z:Int)):qbw dl (l.take (k+1))=(qbw dl (l.take k)).set z false:=by
 unfold qbw; rw [ZR h,List.foldl_append]; rfl
theorem qdp {w0:World} {H:qe} {z:Int} {acts:List qdV} {ada:Option Addr} {capa:Nat} (hrow:Holds w0 H ada (acts.flatMap laC)) (hlen:acts.length≤9223372036854775807) (hin:∀ a∈acts,a.In) (hT:Tab w0):qk Tryz.prog w0 3 #[zi z,.slice ada acts.length capa] (H) (fun v H'=>v=.bool true∧H'=H):=by
 refine qd (l:=[zi z,.slice ada acts.length capa]) Tryz.func3 rfl Tryz.ntmps3 rfl rfl ?_
 refine za 5 rfl ?_
 refine qn (zc1 rfl) Tryz.call9 rfl ((qkc z hT (H:=H)).hsub (.refl _)) ?_
 rintro v H' ⟨n,lb,Ws,HF,hn4,rfl,hF,hWl,hfr,rfl⟩
 refine za 14 rfl ?_
 obtain ⟨sl0,hsl0,hz27⟩:=z27
 obtain ⟨wl0,hwl0,hz28⟩:=z28
 refine qA (l:=sl0.map (Value.int .i64)) Zj hz27 rfl (fun b7=>?_)
 refine za 2 rfl ?_
 refine qA (l:=wl0.map (Value.int .i64)) Kc hz28 rfl (fun b8=>?_)
 refine za 2 rfl ?_
 refine qA (l:=(List.replicate 64 false).map Value.bool) qgH zk rfl (fun b9=>?_)
 refine za 2 rfl ?_
 have e27:(sl0.map (Value.int .i64)).length=128:=by rw [List.length_map,hsl0]; exact List.length_replicate
 have e28:(wl0.map (Value.int .i64)).length=8192:=by rw [List.length_map,hwl0]; exact List.length_replicate
 rw [e27,e28]
 refine qT (H':=(b7,.cells 27 128 ((sl0).map (Value.int .i64)))::(b8,.cells 28 8192 ((wl0).map (Value.int .i64)))::(b9,.cells 29 64 (((List.replicate 64 false)).map Value.bool))::(HF++H)) zH ?_
 refine za 7 rfl ?_
 refine qV (X:=HoS) [(1,_),(5,_),(7,_),(8,_),(9,_)] (fun (z:HoS)=>[(10,zi z.st),(11,zi (z.i:Int))]) (fun _=>_) (fun (z:HoS)=>(b7,.cells 27 128 ((z.sl).map (Value.int .i64)))::(b8,.cells 28 8192 ((z.wl).map (Value.int .i64)))::(b9,.cells 29 64 ((z.dl).map Value.bool))::(z.HF++H)) (fun (z:HoS)=>z.i≤acts.length∧z.i≤80∧z.T≤8+4*z.i∧zr lb z.T z.F z.HF∧HI z.F z.x z.sl z.wl z.dl z.st z.i z.ut z.uc) (fun (z:HoS)=>acts.length-z.i) ⟨0,8,sF (n+1) Ws,HF,Xm.new 1 8 1,sl0,wl0,List.replicate 64 false,0,fun _=>0,fun _=>0⟩ ⟨Nat.zero_le _,Nat.zero_le _,Nat.le_refl _,hF,by rw [hsl0,hwl0]; exact HI.start⟩ (qc rfl (qc rfl (qc rfl (qc rfl (qc rfl (qi _)))))) (qc rfl (qc rfl (qi _))) rfl (show qr _ ((b7,.cells 27 128 ((sl0).map (Value.int .i64)))::(b8,.cells 28 8192 ((wl0).map (Value.int .i64)))::(b9,.cells 29 64 (((List.replicate 64 false)).map Value.bool))::(HF++H)) from zH) ?_
 rintro ⟨i,T,F,HF,x,sl,wl,dl,st,ut,uc⟩ ⟨hi,hi80,hT8,hF,hI⟩
 dsimp only at hi hi80 hT8 hF hI ⊢
 simp only [List.cons_append,List.nil_append]
 refine za 4 rfl (zY rfl ty22 rfl rfl (za 2 rfl ?_))
 apply qb5
 iterate 4 exact rfl
 case h1 =>
  intro hg4
  refine za 4 rfl ?_
  exact Zv rfl zR
 refine qs ?_
 refine qq (p:=(i:Int)<(acts.length:Int)∧(i:Int)<80) rfl (by first | exact Iff.rfl | simp) (fun q0=>?_) (fun q0=>?_)
 ·skip
  refine za 4 rfl ?_
  obtain ⟨a,ha⟩:∃ a,acts[i]?=some a:=⟨_,List.getElem?_eq_getElem zO⟩
  obtain ⟨qa,pa,rfl,hca⟩:=hrow.row qeZ zd ha
  have hok:=hin a (List.mem_of_getElem? ha)
  obtain ⟨r,hr64,hr⟩:=qkG a.a (N:=64) zd
  obtain ⟨d,hd2,hd⟩:=qkG a.b (N:=2) zd
  obtain ⟨kd,hk6,hkd⟩:=qkG a.kind (N:=6) zd
  obtain ⟨k8,hk8,hk8e⟩:=key8 a.key (by have:=hok.2.2.2.2.2.1; omega)
  obtain ⟨ot,oc,hqt,hqc,hxo⟩:=hF.facts
  have hxok:x.Ok:=hxo 0 x false (by rw [hI.ms]; rfl)
  have hsb:=hI.sb
  have hst:=hI.st0
  have hsle:=hI.sle
  have hwle:=hI.wle
  have hdll:=hI.dll
  obtain ⟨g1,g2,hg1,hg2,hen,hex⟩:=hF.dom hd2
  refine za 2 rfl ?_
  refine qN (j:=i) rfl rfl ty22 qgF (by first | rfl | omega) (by first | decide | omega | simp) rfl rfl ?_
  refine KL rfl qgF rfl (vs:=laC a) rfl (hca.up zH) rfl ?_
  refine qA (l:=laC ⟨0,0,0,0,0,0,0⟩) qgF rfl rfl (fun b12=>?_)
  refine qp (l':=laC a) rfl rfl qgF rfl rfl (b:=b12) zM (by exact Nat.le_refl 7) rfl zU ?_
  refine qs (zB zk zK (zq 1 rfl ?_))
  refine qC (ql (v:=zi a.a) rfl ty3 rfl (qh.own (b:=b12) zM rfl)) rfl ?_
  refine qC (qcM (m:=IntKind.u64.wrap a.a) rfl ty3 zX rfl) rfl ?_
  refine qC (QQ rfl rfl (JF zd (m:=(r:Int)) hr)) rfl ?_
  refine qC (qcM rfl zX ty3 (qW zO)) rfl (zq 1 rfl ?_)
  refine qC (ql (v:=zi a.b) rfl ty3 rfl (qh.own (b:=b12) zM rfl)) rfl ?_
  refine qC (qcM (m:=IntKind.u64.wrap a.b) rfl ty3 zX rfl) rfl ?_
  refine qC (QQ rfl rfl (JF zd (m:=(d:Int)) hd)) rfl ?_
  refine qC (qcM rfl zX ty3 (qW zO)) rfl (zq 2 rfl (z4 (za 2 rfl ?_)))
  refine qB (zc1 rfl) Tryz.call10 rfl (hg1 _ _ (fun p hp=>by repeat (first | exact List.mem_append_left _ hp | apply List.mem_cons_of_mem | apply List.mem_append_right))) ?_
  refine za 7 rfl ?_
  refine qlA (p:=(d:Int)=1) [(1,.slice (some ⟨qa,pa,none⟩) acts.length capa),(5,zp lb),(7,zp b7),(8,zp b8),(9,zp b9),(10,zi st),(11,zi (i:Int)),(12,zp b12),(13,zi (r:Int)),(14,zi (d:Int)),(15,.pointer (some ⟨(gA d g1 g2),0,none⟩))] ((b12,.cells 32 7 (laC a))::(b7,.cells 27 128 ((sl).map (Value.int .i64)))::(b8,.cells 28 8192 ((wl).map (Value.int .i64)))::(b9,.cells 29 64 ((dl).map Value.bool))::(HF++H)) rfl (by rw [decide_eq_true_eq]) (fun q1=>?_) (fun q1=>?_) ?_
  ·skip
   refine za 2 rfl ?_
   refine qB (zc1 rfl) Tryz.call11 rfl (hg2 _ _ (fun p hp=>by repeat (first | exact List.mem_append_left _ hp | apply List.mem_cons_of_mem | apply List.mem_append_right))) ?_
   refine za 2 rfl ?_
   refine J6 (qc rfl (qc rfl (qc rfl (qc rfl (qc rfl (qc rfl (qc rfl (qc rfl (qc rfl (qc rfl (qc (by rw [show gA d g1 g2=g2 from if_pos (by omega)]; rfl) (qi _)))))))))))) zH
  ·skip
   refine qjP ?_
   refine J6 (qc rfl (qc rfl (qc rfl (qc rfl (qc rfl (qc rfl (qc rfl (qc rfl (qc rfl (qc rfl (qc (by rw [show gA d g1 g2=g1 from if_neg (by omega)]; rfl) (qi _)))))))))))) zH
  skip
  refine za 2 rfl ?_
  refine qf (v:=zi a.kind) rfl ty3 rfl (qh.own (b:=b12) zM rfl) rfl ?_
  refine Yu (m:=IntKind.u64.wrap a.kind) rfl ty3 zX rfl rfl ?_
  refine qF rfl rfl (JF zd (m:=(kd:Int)) hkd) rfl ?_
  refine za 6 rfl ?_
  refine qq (p:=(kd:Int)=0) rfl (by simp) (fun q2=>?_) (fun q2=>?_)
  ·skip
   refine za 3 rfl ?_
   refine qv (l:=[zi (r:Int)]) qZ ty3 (.cons rfl rfl rfl rfl rfl .nil) rfl rfl rfl rfl rfl rfl rfl (fun b31=>?_)
   refine qn (zc2 rfl rfl) Tryz.call12 rfl ((hen w0 ((b31,.cells 3 1 [zi (r:Int)])::(b7,.cells 27 128 ((sl).map (Value.int .i64)))::(b8,.cells 28 8192 ((wl).map (Value.int .i64)))::(b9,.cells 29 64 ((dl).map Value.bool))::(b12,.cells 32 7 (laC a))::H) (r:Int) (some ⟨b31,0,none⟩) 1 zO zO (fun HZ=>Holds.own (b:=b31) (List.mem_append_right _ List.mem_cons_self))).hsub zH) ?_
   rintro v H' ⟨HF2,hF2,rfl,rfl⟩
   refine za 2 rfl ?_
   apply qb5
   iterate 4 exact rfl
   case h1 =>
    intro hg5
    refine za 5 rfl ?_
    refine zh (j:=d) rfl rfl Zj Q3 (by first | rfl | omega) (by first | decide | omega | simp) rfl rfl ?_
    refine Qk rfl rfl ?_
    refine zh (j:=r) rfl rfl Q3 ty3 (by first | rfl | omega) (by first | decide | omega | simp) rfl rfl ?_
    refine Qk rfl rfl ?_
    refine qf (v:=zi (sA sl d r)) rfl ty3 rfl (qh.own (b:=b7) zM (qc0 hsle hd2 hr64)) rfl ?_
    refine za 2 rfl ?_
    exact Zv rfl zR
   refine qs ?_
   refine qq (p:=(enD F d (r:Int)).2=0∧sA sl d r=0) rfl (by simp) (fun q3=>?_) (fun q3=>?_)
   ·skip
    refine za 2 rfl ?_
    refine qF rfl rfl (qM (m:=st+1) (qW zO)) rfl ?_
    refine za 6 rfl ?_
    refine zh (j:=d) rfl rfl Zj Q3 (by first | rfl | omega) (by first | decide | omega | simp) rfl rfl ?_
    refine zh (j:=r) rfl rfl Q3 ty3 (by first | rfl | omega) (by first | decide | omega | simp) rfl rfl ?_
    refine qy (l':=(sl.set (d*64+r) (st+1)).map (Value.int .i64)) rfl rfl ty3 rfl rfl (b:=b7) zM (qco (b:=128) (by omega) (by rw [List.length_map]; exact hsle)) qgV zU ?_
    refine za 5 rfl ?_
    refine qF rfl rfl (qM (m:=((i+1:Nat):Int)) ((qW zO).trans zO)) rfl ?_
    refine za 2 rfl ?_
    refine qI ⟨i+1,T,(enD F d (r:Int)).1,HF2,x,sl.set (d*64+r) (st+1),wl,dl,st+1,ut,uc⟩ ⟨by show i+1≤acts.length; omega,by show i+1≤80; omega,by show T≤8+4*(i+1); omega,hF2,(hI.en ot oc hd2 hr64).1 q3⟩ (by show acts.length-(i+1)<acts.length-i; omega) (qc rfl (qc rfl (qc rfl (qc rfl (qc rfl (qc rfl (qc rfl (qi _)))))))) rfl (show qr _ ((b7,.cells 27 128 (((sl.set (d*64+r) (st+1))).map (Value.int .i64)))::(b8,.cells 28 8192 ((wl).map (Value.int .i64)))::(b9,.cells 29 64 ((dl).map Value.bool))::(HF2++H)) from zH)
   ·skip
    refine za 5 rfl ?_
    refine qF rfl rfl (qM (m:=((i+1:Nat):Int)) ((qW zO).trans zO)) rfl ?_
    refine za 2 rfl ?_
    refine qI ⟨i+1,T,(enD F d (r:Int)).1,HF2,x,sl,wl,dl,st,ut,uc⟩ ⟨by show i+1≤acts.length; omega,by show i+1≤80; omega,by show T≤8+4*(i+1); omega,hF2,(hI.en ot oc hd2 hr64).2 q3⟩ (by show acts.length-(i+1)<acts.length-i; omega) (qc rfl (qc rfl (qc rfl (qc rfl (qc rfl (qc rfl (qc rfl (qi _)))))))) rfl (show qr _ ((b7,.cells 27 128 ((sl).map (Value.int .i64)))::(b8,.cells 28 8192 ((wl).map (Value.int .i64)))::(b9,.cells 29 64 ((dl).map Value.bool))::(HF2++H)) from zH)
  ·skip
   refine za 4 rfl ?_
   refine qq (p:=(kd:Int)=1) rfl (by simp) (fun q3=>?_) (fun q3=>?_)
   ·skip
    refine za 3 rfl (qn (zc2 rfl rfl) Tryz.call13 rfl ((hex w0 ((b7,.cells 27 128 ((sl).map (Value.int .i64)))::(b8,.cells 28 8192 ((wl).map (Value.int .i64)))::(b9,.cells 29 64 ((dl).map Value.bool))::(b12,.cells 32 7 (laC a))::H) (r:Int)).hsub zH) ?_)
    rintro v H' ⟨HF2,hF2,rfl,rfl⟩
    refine za 9 rfl ?_
    refine qq (p:=(exD F d (r:Int)).2.1=true) rfl .rfl (fun q4=>?_) (fun q4=>?_)
    ·skip
     refine za 3 rfl ?_
     refine zh (j:=d) rfl rfl Zj Q3 (by first | rfl | omega) (by first | decide | omega | simp) rfl rfl ?_
     refine zh (j:=r) rfl rfl Q3 ty3 (by first | rfl | omega) (by first | decide | omega | simp) rfl rfl ?_
     refine qy (l':=(sl.set (d*64+r) 0).map (Value.int .i64)) rfl rfl ty3 rfl rfl (b:=b7) zM (qco (b:=128) (by omega) (by rw [List.length_map]; exact hsle)) qgV zU ?_
     refine za 5 rfl ?_
     refine qF rfl rfl (qM (m:=((i+1:Nat):Int)) ((qW zO).trans zO)) rfl ?_
     refine za 2 rfl ?_
     refine qI ⟨i+1,T,(exD F d (r:Int)).1,HF2,x,sl.set (d*64+r) 0,wl,dl,st,ut,uc⟩ ⟨by show i+1≤acts.length; omega,by show i+1≤80; omega,by show T≤8+4*(i+1); omega,hF2,(hI.ex ot oc hd2 hr64).1 q4⟩ (by show acts.length-(i+1)<acts.length-i; omega) (qc rfl (qc rfl (qc rfl (qc rfl (qc rfl (qc rfl (qc rfl (qi _)))))))) rfl (show qr _ ((b7,.cells 27 128 (((sl.set (d*64+r) 0)).map (Value.int .i64)))::(b8,.cells 28 8192 ((wl).map (Value.int .i64)))::(b9,.cells 29 64 ((dl).map Value.bool))::(HF2++H)) from zH)
    ·skip
     refine za 5 rfl ?_
     refine qF rfl rfl (qM (m:=((i+1:Nat):Int)) ((qW zO).trans zO)) rfl ?_
     refine za 2 rfl ?_
     refine qI ⟨i+1,T,(exD F d (r:Int)).1,HF2,x,sl,wl,dl,st,ut,uc⟩ ⟨by show i+1≤acts.length; omega,by show i+1≤80; omega,by show T≤8+4*(i+1); omega,hF2,(hI.ex ot oc hd2 hr64).2 (by simpa using q4)⟩ (by show acts.length-(i+1)<acts.length-i; omega) (qc rfl (qc rfl (qc rfl (qc rfl (qc rfl (qc rfl (qc rfl (qi _)))))))) rfl (show qr _ ((b7,.cells 27 128 ((sl).map (Value.int .i64)))::(b8,.cells 28 8192 ((wl).map (Value.int .i64)))::(b9,.cells 29 64 ((dl).map Value.bool))::(HF2++H)) from zH)
   ·skip
    refine za 4 rfl ?_
    refine qq (p:=(kd:Int)=2) rfl (by simp) (fun q4=>?_) (fun q4=>?_)
    ·skip
     refine za 3 rfl ?_
     refine qf (v:=zu a.key) rfl zX rfl (qh.own (b:=b12) zM rfl) rfl ?_
     refine qF rfl rfl (JF zd (m:=(k8:Int)) hk8e) rfl ?_
     refine za 1 rfl ?_
     refine qf (v:=zu a.word) rfl zX rfl (qh.own (b:=b12) zM rfl) rfl ?_
     refine qv (l:=[zu a.word]) Zq zX (.cons rfl rfl rfl rfl rfl .nil) rfl rfl rfl rfl rfl rfl rfl (fun b190=>?_)
     refine qn (zc5 rfl rfl rfl rfl rfl) Tryz.call14 rfl ((hF.put hT zO (m:=0) (how:=0) (k:=(k8:Int)) (ws:=[a.word]) zO (fun HZ=>Holds.own (b:=b190) (List.mem_append_right _ List.mem_cons_self)) (capw:=1) (H:=(b190,.cells 30 1 [zu a.word])::(b7,.cells 27 128 ((sl).map (Value.int .i64)))::(b8,.cells 28 8192 ((wl).map (Value.int .i64)))::(b9,.cells 29 64 ((dl).map Value.bool))::(b12,.cells 32 7 (laC a))::H)).hsub zH) ?_
     rintro v H' ⟨HF2,hF2,rfl,rfl⟩
     refine za 5 rfl ?_
     refine qF rfl rfl (qM (m:=((i+1:Nat):Int)) ((qW zO).trans zO)) rfl ?_
     refine za 2 rfl ?_
     refine qI ⟨i+1,T+2,(Kn F 0 0 (k8:Int) [a.word]).1,HF2,(x.put 0 (k8:Int) [a.word]).1,sl,wl,dl,st,ut,uc⟩ ⟨by show i+1≤acts.length; omega,by show i+1≤80; omega,by show T+2≤8+4*(i+1); omega,hF2,hI.put hxok _ _⟩ (by show acts.length-(i+1)<acts.length-i; omega) (qc rfl (qc rfl (qc rfl (qc rfl (qc rfl (qc rfl (qc rfl (qi _)))))))) rfl (show qr _ ((b7,.cells 27 128 ((sl).map (Value.int .i64)))::(b8,.cells 28 8192 ((wl).map (Value.int .i64)))::(b9,.cells 29 64 ((dl).map Value.bool))::(HF2++H)) from zH)
    ·skip
     refine za 4 rfl ?_
     refine qq (p:=(kd:Int)=3) rfl (by simp) (fun q5=>?_) (fun q5=>?_)
     ·skip
      refine za 3 rfl ?_
      refine qf (v:=zu a.key) rfl zX rfl (qh.own (b:=b12) zM rfl) rfl ?_
      refine qF rfl rfl (JF zd (m:=(k8:Int)) hk8e) rfl ?_
      refine qn (zc3 rfl rfl rfl) Tryz.call15 rfl ((hF.find (m:=0) (k:=(k8:Int)) zO (H:=(b7,.cells 27 128 ((sl).map (Value.int .i64)))::(b8,.cells 28 8192 ((wl).map (Value.int .i64)))::(b9,.cells 29 64 ((dl).map Value.bool))::(b12,.cells 32 7 (laC a))::H)).hsub zH) ?_
      rintro v H' ⟨HF2,hF2,rfl,rfl⟩
      refine za 3 rfl ?_
      refine qA (l:=hdC zHd) qO rfl rfl (fun b18=>?_)
      refine qp (l':=hdC (JE F 0 (k8:Int)).2.1) rfl rfl qO rfl rfl (b:=b18) zM (by exact Nat.le_refl 2) rfl zU ?_
      refine za 7 rfl ?_
      refine qq (p:=(JE F 0 (k8:Int)).2.2≠0) rfl (by simp) (fun q6=>?_) (fun q6=>?_)
      ·skip
       refine za 3 rfl ?_
       refine qF rfl rfl (qM (m:=((i+1:Nat):Int)) ((qW zO).trans zO)) rfl ?_
       refine za 2 rfl ?_
       refine qI ⟨i+1,T+1,(JE F 0 (k8:Int)).1,HF2,(x.find (k8:Int)).1,sl,wl,dl,st,ut,uc⟩ ⟨by show i+1≤acts.length; omega,by show i+1≤80; omega,by show T+1≤8+4*(i+1); omega,hF2,(hI.find (k8:Int)).1.next⟩ (by show acts.length-(i+1)<acts.length-i; omega) (qc rfl (qc rfl (qc rfl (qc rfl (qc rfl (qc rfl (qc rfl (qi _)))))))) rfl (show qr _ ((b7,.cells 27 128 ((sl).map (Value.int .i64)))::(b8,.cells 28 8192 ((wl).map (Value.int .i64)))::(b9,.cells 29 64 ((dl).map Value.bool))::(HF2++H)) from zH)
      ·skip
       refine za 2 rfl ?_
       rw [Classical.not_not] at q6
       obtain ⟨hI2,hfe⟩:=hI.find (k8:Int)
       obtain ⟨gh,hgh⟩:∃ gh,Qz x.C (k8:Int)=some gh:=by
        cases hc:Qz x.C (k8:Int) with
        | some g=>exact ⟨g,rfl⟩
        | none =>
         rw [hfe] at q6
         unfold Xm.find at q6
         rw [hc] at q6
         exact absurd q6 (show ¬ (4:Int)=0 by decide)
       have hfx:x.find (k8:Int)=(x.use (k8:Int),gh,0):=by unfold Xm.find; rw [hgh]
       obtain ⟨ot2,oc2,hqt2,hqc2,hxo2⟩:=hF2.facts
       have hxok2:(x.find (k8:Int)).1.Ok:=hxo2 0 _ false (by rw [hI2.ms]; rfl)
       obtain ⟨zn,ut2,uc2,hz16,hnum,hdz,hdr,hI3⟩:=hI2.drop hxok2 ot2 oc2 hqt2 ot2.n.1 (k:=(k8:Int)) (g:=gh) (by rw [hfx]; exact hgh)
       have ehd:(JE F 0 (k8:Int)).2.1=gh:=by rw [show (JE F 0 (k8:Int)).2=(x.find (k8:Int)).2 from hfe,hfx]
       rw [ehd]
       refine qH rfl rfl ?_
       refine qK (vs:=hdC gh) rfl qO rfl (b:=b18) zM rfl rfl rfl ?_
       refine qB (zc3 rfl rfl rfl) Tryz.call16 rfl (hF2.number (fun p hp=>by repeat (first | exact List.mem_append_left _ hp | apply List.mem_cons_of_mem | apply List.mem_append_right)) (m:=0) (h:=gh)) ?_
       rw [hnum]
       refine za 10 rfl ?_
       rw [decide_eq_false (fun h=>h rfl)]
       refine za 5 rfl ?_
       rw [decide_eq_false (by omega)]
       refine za 6 rfl ?_
       rw [decide_eq_false (by omega)]
       refine za 5 rfl ?_
       refine zh (j:=zn) rfl rfl qgH ty4 (by first | rfl | omega) (by first | decide | omega | simp) rfl rfl ?_
       refine Qk rfl rfl ?_
       refine qf (v:=.bool false) rfl ty4 rfl (qh.own (b:=b9) zM (qmb hdz)) rfl ?_
       refine za 7 rfl ?_
       refine qf (v:=zu a.key) rfl zX rfl (qh.own (b:=b12) zM rfl) rfl ?_
       refine Qk rfl rfl ?_
       refine qF rfl rfl (JF zd (m:=(k8:Int)) hk8e) rfl ?_
       refine Qk rfl rfl ?_
       refine qn (zc3 rfl rfl rfl) Tryz.call17 rfl ((hF2.drop (m:=0) (k:=(k8:Int)) (H:=(b18,.cells 40 2 (hdC gh))::(b7,.cells 27 128 ((sl).map (Value.int .i64)))::(b8,.cells 28 8192 ((wl).map (Value.int .i64)))::(b9,.cells 29 64 ((dl).map Value.bool))::(b12,.cells 32 7 (laC a))::H)).hsub zH) ?_
       rintro v H' ⟨HF3,hF3,rfl,rfl⟩
       rw [hdr]
       refine za 2 rfl ?_
       rw [decide_eq_false (fun h=>h rfl)]
       refine za 4 rfl ?_
       refine zy [(b7,.cells 27 128 ((sl).map (Value.int .i64)))] zk ?_
       refine zw [0,1] rfl rfl ?_
       refine qm 2 rfl zK zK zK rfl rfl (Qf (vs:=sl.map (Value.int .i64)) rfl Zj rfl (b:=b7) zM (by rw [Nat.ble_eq,List.length_map,hsle]; exact Nat.le_refl _) (by rw [List.drop_zero]; exact List.take_of_length_le (by rw [List.length_map,hsle]; exact Nat.le_refl _))) rfl ?_
       refine qm 3 rfl zK zK zK rfl rfl (qu (j:=zn) rfl rfl qgH ty4 (by first | rfl | omega) (by first | decide | omega | simp) rfl) rfl ?_
       refine qJ 4 zH zK rfl rfl ?_
       refine qy (l':=((dl).set zn true).map Value.bool) rfl rfl ty4 rfl rfl (b:=b9) zM (qco (b:=64) (by omega) (by rw [List.length_map]; first | exact hdll | exact hdkl)) qja zU ?_
       refine qs (WC_goal ?_)
       refine qm 5 rfl zK zK zK rfl rfl (qu (j:=zn) rfl rfl Kc Zj (by first | rfl | omega) (by first | decide | omega | simp) rfl) rfl ?_
       refine qJ 6 zH zK rfl rfl ?_
       refine qp (l':=(Kg wl (zn*128) sl).map (Value.int .i64)) rfl rfl Zj (by rw [List.all_map,List.all_eq_true]; exact fun _ _=>rfl) (by show (sl.map (Value.int .i64)).length=128; rw [List.length_map]; exact hsle) (b:=b8) zM (by rw [List.length_map,hwle]; omega) (by rw [show 0+zn*128=zn*128 by omega]; exact qgU _) zU ?_
       refine qs (WC_goal (WC_done zH zK (za 4 rfl ?_)))
       refine qF rfl rfl (qM (m:=((i+1:Nat):Int)) ((qW zO).trans zO)) rfl ?_
       refine za 2 rfl ?_
       refine qI ⟨i+1,T+1,(YF (JE F 0 (k8:Int)).1 0 (k8:Int)).1,HF3,((x.find (k8:Int)).1.unlink (k8:Int)).1,sl,Kg wl (zn*128) sl,dl.set zn true,st,ut2,uc2⟩ ⟨by show i+1≤acts.length; omega,by show i+1≤80; omega,by show T+1≤8+4*(i+1); omega,hF3,hI3⟩ (by show acts.length-(i+1)<acts.length-i; omega) (qc rfl (qc rfl (qc rfl (qc rfl (qc rfl (qc rfl (qc rfl (qi _)))))))) rfl (show qr _ ((b7,.cells 27 128 ((sl).map (Value.int .i64)))::(b8,.cells 28 8192 (((Kg wl (zn*128) sl)).map (Value.int .i64)))::(b9,.cells 29 64 (((dl.set zn true)).map Value.bool))::(HF3++H)) from zH)
     ·skip
      refine za 2 rfl ?_
      obtain ⟨⟨x2,hI2⟩,hnums,hwh,hnd,hid1,hall⟩:=hI.poll ot oc hqc
      refine qn (zc1 rfl) Tryz.call18 rfl ((zr.poll hF zO zO hid1 (fun z hz=>by
       have:=hall z hz
       refine ⟨by omega,?_⟩
       rw [show z/16=0 by omega,hI.map0]; rfl) hT (H:=(b7,.cells 27 128 ((sl).map (Value.int .i64)))::(b8,.cells 28 8192 ((wl).map (Value.int .i64)))::(b9,.cells 29 64 ((dl).map Value.bool))::(b12,.cells 32 7 (laC a))::H)).hsub zH) ?_
      rintro v H' ⟨HF2,XG,hF2,hO,rfl⟩
      obtain ⟨adg,capg,rfl,hcg1,hcg2⟩:=hO.shape
      have hrowg:∀ {H:qe},(∀ p∈XG,p∈H)→Holds w0 H adg ((Jk F).2.flatMap gnC):=fun hs=>zz.toHolds hO hs
      obtain ⟨gs,egs⟩:∃ gs,gs=(Jk F).2:=⟨_,rfl⟩
      have hgl:gs.length≤maxLen:=by rw [egs]; omega
      simp only [maxLen] at hgl
      rw [← egs] at hnums hwh hrowg ⊢
      refine za 6 rfl ?_
      refine qV (X:=(Nat × List Bool)) [(1,_),(5,_),(7,_),(8,_),(9,_),(10,_),(11,_),(22,_)] (fun (z:(Nat × List Bool))=>[(23,zi (z.1:Int))]) (fun _=>_) (fun (z:(Nat × List Bool))=>(b7,.cells 27 128 ((sl).map (Value.int .i64)))::(b8,.cells 28 8192 ((wl).map (Value.int .i64)))::(b9,.cells 29 64 ((z.2).map Value.bool))::(b12,.cells 32 7 (laC a))::(XG++(HF2++H))) (fun (z:(Nat × List Bool))=>z.1≤gs.length∧z.2=qbw dl ((t2F F).take z.1)) (fun (z:(Nat × List Bool))=>gs.length-z.1) (0,dl) ⟨Nat.zero_le _,rfl⟩ (qc rfl (qc rfl (qc rfl (qc rfl (qc rfl (qc rfl (qc rfl (qc rfl (qi _))))))))) (qc rfl (qi _)) rfl zH ?_
      rintro ⟨k,dk⟩ ⟨hk,hdk⟩
      dsimp only at hk hdk ⊢
      simp only [List.cons_append,List.nil_append]
      refine za 4 rfl (zY rfl Ka rfl rfl (za 2 rfl ?_))
      refine qq (p:=k<gs.length) rfl (by rw [decide_eq_true_eq]; omega) (fun q6=>?_) (fun q6=>?_)
      ·skip
       refine za 4 rfl ?_
       obtain ⟨gn,hgn⟩:∃ gn,gs[k]?=some gn:=⟨_,List.getElem?_eq_getElem zO⟩
       obtain ⟨qg,pg,rfl,hcg⟩:=(hrowg (H:=XG++(HF2++H)) (fun p hp=>List.mem_append_left _ hp)).row qe2 zd hgn
       have hzk0:(t2F F)[k]?=some gn.number:=by rw [← hnums,List.getElem?_map,hgn]; rfl
       obtain ⟨zn,hzn⟩:∃ zn:Nat,gn.number=(zn:Int):=⟨gn.number.toNat,by have:=(hall _ (List.mem_of_getElem? hzk0)).1; omega⟩
       have hzk:(t2F F)[k]?=some (zn:Int):=by rw [hzk0,hzn]
       obtain ⟨_,hz16,hdz,hrd⟩:=hall _ (List.mem_of_getElem? hzk)
       replace hz16:zn<16:=by omega
       have hwhg:=hwh gn (List.mem_of_getElem? hgn)
       have hdkl:dk.length=64:=by rw [hdk,qbv]; exact hdll
       have hdz2:dk[zn]?=some true:=by
        rw [hdk,qcJ (by rw [hdll]; omega) (fun z hz=>(hall z ((List.take_subset _ _) hz)).1),if_neg]
        ·simpa using hdz
        ·intro hm
         obtain ⟨m,hm⟩:=List.mem_iff_getElem?.1 hm
         have hmk:m<k:=by
          have:=(List.getElem?_eq_some_iff.1 hm).1
          rw [List.length_take] at this; omega
         rw [List.getElem?_take_of_lt hmk] at hm
         have h1:=(List.getElem?_eq_some_iff.1 hm)
         have h2:=(List.getElem?_eq_some_iff.1 hzk)
         exact (List.pairwise_iff_getElem.1 hnd) m k h1.1 h2.1 hmk (h1.2.trans h2.2.symm)
       refine za 2 rfl ?_
       refine qN (j:=k) rfl rfl Ka Y4 (by first | rfl | omega) (by first | decide | omega | simp) rfl rfl ?_
       refine za 1 rfl ?_
       refine qf (v:=(zi (zn:Int))) rfl ty3 rfl (by exact (QI.up hcg zH) 1 (zi (zn:Int)) (by show some _=some _; first | rw [hzn] | rw [hwhg])) rfl ?_
       refine za 6 rfl ?_
       refine qN (j:=k) rfl rfl Ka Y4 (by first | rfl | omega) (by first | decide | omega | simp) rfl rfl ?_
       refine za 1 rfl ?_
       refine qf (v:=(.bool false)) rfl ty4 rfl (by exact (QI.up hcg zH) 3 (.bool false) (by show some _=some _; first | rw [hzn] | rw [hwhg])) rfl ?_
       refine za 5 rfl ?_
       rw [decide_eq_false (by omega)]
       refine za 6 rfl ?_
       rw [decide_eq_false (by omega)]
       refine za 5 rfl ?_
       refine zh (j:=zn) rfl rfl qgH ty4 (by first | rfl | omega) (by first | decide | omega | simp) rfl rfl ?_
       refine Qk rfl rfl ?_
       refine qf (v:=.bool true) rfl ty4 rfl (qh.own (b:=b9) zM (qmb hdz2)) rfl ?_
       refine za 8 rfl ?_
       refine zh (j:=zn) rfl rfl qgH ty4 (by first | rfl | omega) (by first | decide | omega | simp) rfl rfl ?_
       refine qy (l':=((dk).set zn false).map Value.bool) rfl rfl ty4 rfl rfl (b:=b9) zM (qco (b:=64) (by omega) (by rw [List.length_map]; first | exact hdll | exact hdkl)) qja zU ?_
       refine za 5 rfl ?_
       refine qV (X:=Nat) [(1,_),(5,_),(7,_),(8,_),(9,_),(10,_),(11,_),(22,_),(23,_),(24,_)] (fun (j:Nat)=>[(25,zi (j:Int))]) (fun _=>_) (fun (j:Nat)=>(b7,.cells 27 128 ((sl).map (Value.int .i64)))::(b8,.cells 28 8192 ((wl).map (Value.int .i64)))::(b9,.cells 29 64 (((dk.set zn false)).map Value.bool))::(b12,.cells 32 7 (laC a))::(XG++(HF2++H))) (fun (j:Nat)=>j≤64) (fun (j:Nat)=>64-j) 0 (Nat.zero_le _) (qc rfl (qc rfl (qc rfl (qc rfl (qc rfl (qc rfl (qc rfl (qc rfl (qc rfl (qc rfl (qi _))))))))))) (qc rfl (qi _)) rfl zH ?_
       intro j hj
       simp only [List.cons_append,List.nil_append]
       refine za 5 rfl ?_
       refine qq (p:=j<64) rfl (by rw [decide_eq_true_eq]; omega) (fun q7=>?_) (fun q7=>?_)
       ·skip
        refine za 4 rfl ?_
        have hj64:j<64:=by omega
        obtain ⟨hr0,hr1⟩:=hrd j hj64
        rcases (show (0<wA wl 0 (zn:Int) j∧wA wl 0 (zn:Int) j≠sA sl 0 j)∨¬ 0<wA wl 0 (zn:Int) j by by_cases h:0<wA wl 0 (zn:Int) j; exact .inl ⟨h,fun e=>hr0 ⟨h,e⟩⟩; exact .inr h) with ⟨ha1,ha2⟩ | ha1 <;> rcases (show (0<wA wl 1 (zn:Int) j∧wA wl 1 (zn:Int) j≠sA sl 1 j)∨¬ 0<wA wl 1 (zn:Int) j by by_cases h:0<wA wl 1 (zn:Int) j; exact .inl ⟨h,fun e=>hr1 ⟨h,e⟩⟩; exact .inr h) with ⟨hb1,hb2⟩ | hb1
        ·skip
         refine Zt zk zK (zq 2 rfl ?_)
         refine qC (qu (j:=zn) rfl rfl Kc Zj (by first | rfl | omega) (by first | decide | omega | simp) rfl) rfl ?_
         refine qC (qu (j:=0) rfl rfl Zj Q3 (by first | rfl | omega) (by first | decide | omega | simp) rfl) rfl ?_
         refine qC (qu (j:=j) rfl rfl Q3 ty3 (by first | rfl | omega) (by first | decide | omega | simp) rfl) rfl ?_
         refine qC (ql (v:=zi (wA wl 0 (zn:Int) j)) rfl ty3 rfl (qh.own (b:=b8) zM (YZ hwle hz16 (d:=0) zd hj64))) rfl ?_
         refine zq 1 rfl ?_
         rw [decide_eq_true ha1]
         refine zq 6 rfl ?_
         refine qC (qu (j:=zn) rfl rfl Kc Zj (by first | rfl | omega) (by first | decide | omega | simp) rfl) rfl ?_
         refine zq 1 rfl ?_
         refine qC (qu (j:=0) rfl rfl Zj Q3 (by first | rfl | omega) (by first | decide | omega | simp) rfl) rfl ?_
         refine zq 1 rfl ?_
         refine qC (qu (j:=j) rfl rfl Q3 ty3 (by first | rfl | omega) (by first | decide | omega | simp) rfl) rfl ?_
         refine zq 1 rfl ?_
         refine qC (ql (v:=zi (wA wl 0 (zn:Int) j)) rfl ty3 rfl (qh.own (b:=b8) zM (YZ hwle hz16 (d:=0) zd hj64))) rfl ?_
         refine zq 3 rfl ?_
         refine qC (qu (j:=0) rfl rfl Zj Q3 (by first | rfl | omega) (by first | decide | omega | simp) rfl) rfl ?_
         refine zq 1 rfl ?_
         refine qC (qu (j:=j) rfl rfl Q3 ty3 (by first | rfl | omega) (by first | decide | omega | simp) rfl) rfl ?_
         refine zq 1 rfl ?_
         refine qC (ql (v:=zi (sA sl 0 j)) rfl ty3 rfl (qh.own (b:=b7) zM (qc0 hsle (d:=0) zd hj64))) rfl ?_
         refine zq 2 rfl ?_
         rw [decide_eq_false ha2]
         first | refine qC (qX rfl rfl) rfl ?_ | refine qC (qY rfl rfl) rfl ?_
         refine zq 6 rfl ?_
         refine qC (qu (j:=zn) rfl rfl Kc Zj (by first | rfl | omega) (by first | decide | omega | simp) rfl) rfl ?_
         refine zq 1 rfl ?_
         refine qC (qu (j:=1) rfl rfl Zj Q3 (by first | rfl | omega) (by first | decide | omega | simp) rfl) rfl ?_
         refine zq 1 rfl ?_
         refine qC (qu (j:=j) rfl rfl Q3 ty3 (by first | rfl | omega) (by first | decide | omega | simp) rfl) rfl ?_
         refine zq 1 rfl ?_
         refine qC (ql (v:=zi (wA wl 1 (zn:Int) j)) rfl ty3 rfl (qh.own (b:=b8) zM (YZ hwle hz16 (d:=1) zd hj64))) rfl ?_
         refine zq 2 rfl ?_
         rw [decide_eq_true hb1]
         refine zq 7 rfl ?_
         refine qC (qu (j:=zn) rfl rfl Kc Zj (by first | rfl | omega) (by first | decide | omega | simp) rfl) rfl ?_
         refine zq 1 rfl ?_
         refine qC (qu (j:=1) rfl rfl Zj Q3 (by first | rfl | omega) (by first | decide | omega | simp) rfl) rfl ?_
         refine zq 1 rfl ?_
         refine qC (qu (j:=j) rfl rfl Q3 ty3 (by first | rfl | omega) (by first | decide | omega | simp) rfl) rfl ?_
         refine zq 1 rfl ?_
         refine qC (ql (v:=zi (wA wl 1 (zn:Int) j)) rfl ty3 rfl (qh.own (b:=b8) zM (YZ hwle hz16 (d:=1) zd hj64))) rfl ?_
         refine zq 3 rfl ?_
         refine qC (qu (j:=1) rfl rfl Zj Q3 (by first | rfl | omega) (by first | decide | omega | simp) rfl) rfl ?_
         refine zq 1 rfl ?_
         refine qC (qu (j:=j) rfl rfl Q3 ty3 (by first | rfl | omega) (by first | decide | omega | simp) rfl) rfl ?_
         refine zq 1 rfl ?_
         refine qC (ql (v:=zi (sA sl 1 j)) rfl ty3 rfl (qh.own (b:=b7) zM (qc0 hsle (d:=1) zd hj64))) rfl ?_
         refine zq 2 rfl ?_
         rw [decide_eq_false hb2]
         refine zq 1 rfl ?_
         first | refine qC (qX rfl rfl) rfl ?_ | refine qC (qY rfl rfl) rfl ?_
         first | refine qC (qX rfl rfl) rfl ?_ | refine qC (qY rfl rfl) rfl ?_
         refine z4 (za 5 rfl ?_)
         refine qF rfl rfl (qM (m:=((j+1:Nat):Int)) ((qW zO).trans zO)) rfl ?_
         refine za 2 rfl ?_
         refine qI (j+1) (by show j+1≤64; omega) (by show 64-(j+1)<64-j; omega) (qc rfl (qc rfl (qc rfl (qc rfl (qc rfl (qc rfl (qc rfl (qc rfl (qc rfl (qc rfl (qc rfl (qi _)))))))))))) rfl zH
        ·skip
         refine Zt zk zK (zq 2 rfl ?_)
         refine qC (qu (j:=zn) rfl rfl Kc Zj (by first | rfl | omega) (by first | decide | omega | simp) rfl) rfl ?_
         refine qC (qu (j:=0) rfl rfl Zj Q3 (by first | rfl | omega) (by first | decide | omega | simp) rfl) rfl ?_
         refine qC (qu (j:=j) rfl rfl Q3 ty3 (by first | rfl | omega) (by first | decide | omega | simp) rfl) rfl ?_
         refine qC (ql (v:=zi (wA wl 0 (zn:Int) j)) rfl ty3 rfl (qh.own (b:=b8) zM (YZ hwle hz16 (d:=0) zd hj64))) rfl ?_
         refine zq 1 rfl ?_
         rw [decide_eq_true ha1]
         refine zq 6 rfl ?_
         refine qC (qu (j:=zn) rfl rfl Kc Zj (by first | rfl | omega) (by first | decide | omega | simp) rfl) rfl ?_
         refine zq 1 rfl ?_
         refine qC (qu (j:=0) rfl rfl Zj Q3 (by first | rfl | omega) (by first | decide | omega | simp) rfl) rfl ?_
         refine zq 1 rfl ?_
         refine qC (qu (j:=j) rfl rfl Q3 ty3 (by first | rfl | omega) (by first | decide | omega | simp) rfl) rfl ?_
         refine zq 1 rfl ?_
         refine qC (ql (v:=zi (wA wl 0 (zn:Int) j)) rfl ty3 rfl (qh.own (b:=b8) zM (YZ hwle hz16 (d:=0) zd hj64))) rfl ?_
         refine zq 3 rfl ?_
         refine qC (qu (j:=0) rfl rfl Zj Q3 (by first | rfl | omega) (by first | decide | omega | simp) rfl) rfl ?_
         refine zq 1 rfl ?_
         refine qC (qu (j:=j) rfl rfl Q3 ty3 (by first | rfl | omega) (by first | decide | omega | simp) rfl) rfl ?_
         refine zq 1 rfl ?_
         refine qC (ql (v:=zi (sA sl 0 j)) rfl ty3 rfl (qh.own (b:=b7) zM (qc0 hsle (d:=0) zd hj64))) rfl ?_
         refine zq 2 rfl ?_
         rw [decide_eq_false ha2]
         first | refine qC (qX rfl rfl) rfl ?_ | refine qC (qY rfl rfl) rfl ?_
         refine zq 6 rfl ?_
         refine qC (qu (j:=zn) rfl rfl Kc Zj (by first | rfl | omega) (by first | decide | omega | simp) rfl) rfl ?_
         refine zq 1 rfl ?_
         refine qC (qu (j:=1) rfl rfl Zj Q3 (by first | rfl | omega) (by first | decide | omega | simp) rfl) rfl ?_
         refine zq 1 rfl ?_
         refine qC (qu (j:=j) rfl rfl Q3 ty3 (by first | rfl | omega) (by first | decide | omega | simp) rfl) rfl ?_
         refine zq 1 rfl ?_
         refine qC (ql (v:=zi (wA wl 1 (zn:Int) j)) rfl ty3 rfl (qh.own (b:=b8) zM (YZ hwle hz16 (d:=1) zd hj64))) rfl ?_
         refine zq 2 rfl ?_
         rw [decide_eq_false hb1]
         refine zq 14 rfl ?_
         first | refine qC (qX rfl rfl) rfl ?_ | refine qC (qY rfl rfl) rfl ?_
         first | refine qC (qX rfl rfl) rfl ?_ | refine qC (qY rfl rfl) rfl ?_
         refine z4 (za 5 rfl ?_)
         refine qF rfl rfl (qM (m:=((j+1:Nat):Int)) ((qW zO).trans zO)) rfl ?_
         refine za 2 rfl ?_
         refine qI (j+1) (by show j+1≤64; omega) (by show 64-(j+1)<64-j; omega) (qc rfl (qc rfl (qc rfl (qc rfl (qc rfl (qc rfl (qc rfl (qc rfl (qc rfl (qc rfl (qc rfl (qi _)))))))))))) rfl zH
        ·skip
         refine Zt zk zK (zq 2 rfl ?_)
         refine qC (qu (j:=zn) rfl rfl Kc Zj (by first | rfl | omega) (by first | decide | omega | simp) rfl) rfl ?_
         refine qC (qu (j:=0) rfl rfl Zj Q3 (by first | rfl | omega) (by first | decide | omega | simp) rfl) rfl ?_
         refine qC (qu (j:=j) rfl rfl Q3 ty3 (by first | rfl | omega) (by first | decide | omega | simp) rfl) rfl ?_
         refine qC (ql (v:=zi (wA wl 0 (zn:Int) j)) rfl ty3 rfl (qh.own (b:=b8) zM (YZ hwle hz16 (d:=0) zd hj64))) rfl ?_
         refine zq 1 rfl ?_
         rw [decide_eq_false ha1]
         refine zq 12 rfl ?_
         first | refine qC (qX rfl rfl) rfl ?_ | refine qC (qY rfl rfl) rfl ?_
         refine zq 6 rfl ?_
         refine qC (qu (j:=zn) rfl rfl Kc Zj (by first | rfl | omega) (by first | decide | omega | simp) rfl) rfl ?_
         refine zq 1 rfl ?_
         refine qC (qu (j:=1) rfl rfl Zj Q3 (by first | rfl | omega) (by first | decide | omega | simp) rfl) rfl ?_
         refine zq 1 rfl ?_
         refine qC (qu (j:=j) rfl rfl Q3 ty3 (by first | rfl | omega) (by first | decide | omega | simp) rfl) rfl ?_
         refine zq 1 rfl ?_
         refine qC (ql (v:=zi (wA wl 1 (zn:Int) j)) rfl ty3 rfl (qh.own (b:=b8) zM (YZ hwle hz16 (d:=1) zd hj64))) rfl ?_
         refine zq 2 rfl ?_
         rw [decide_eq_true hb1]
         refine zq 7 rfl ?_
         refine qC (qu (j:=zn) rfl rfl Kc Zj (by first | rfl | omega) (by first | decide | omega | simp) rfl) rfl ?_
         refine zq 1 rfl ?_
         refine qC (qu (j:=1) rfl rfl Zj Q3 (by first | rfl | omega) (by first | decide | omega | simp) rfl) rfl ?_
         refine zq 1 rfl ?_
         refine qC (qu (j:=j) rfl rfl Q3 ty3 (by first | rfl | omega) (by first | decide | omega | simp) rfl) rfl ?_
         refine zq 1 rfl ?_
         refine qC (ql (v:=zi (wA wl 1 (zn:Int) j)) rfl ty3 rfl (qh.own (b:=b8) zM (YZ hwle hz16 (d:=1) zd hj64))) rfl ?_
         refine zq 3 rfl ?_
         refine qC (qu (j:=1) rfl rfl Zj Q3 (by first | rfl | omega) (by first | decide | omega | simp) rfl) rfl ?_
         refine zq 1 rfl ?_
         refine qC (qu (j:=j) rfl rfl Q3 ty3 (by first | rfl | omega) (by first | decide | omega | simp) rfl) rfl ?_
         refine zq 1 rfl ?_
         refine qC (ql (v:=zi (sA sl 1 j)) rfl ty3 rfl (qh.own (b:=b7) zM (qc0 hsle (d:=1) zd hj64))) rfl ?_
         refine zq 2 rfl ?_
         rw [decide_eq_false hb2]
         refine zq 1 rfl ?_
         first | refine qC (qX rfl rfl) rfl ?_ | refine qC (qY rfl rfl) rfl ?_
         first | refine qC (qX rfl rfl) rfl ?_ | refine qC (qY rfl rfl) rfl ?_
         refine z4 (za 5 rfl ?_)
         refine qF rfl rfl (qM (m:=((j+1:Nat):Int)) ((qW zO).trans zO)) rfl ?_
         refine za 2 rfl ?_
         refine qI (j+1) (by show j+1≤64; omega) (by show 64-(j+1)<64-j; omega) (qc rfl (qc rfl (qc rfl (qc rfl (qc rfl (qc rfl (qc rfl (qc rfl (qc rfl (qc rfl (qc rfl (qi _)))))))))))) rfl zH
        ·skip
         refine Zt zk zK (zq 2 rfl ?_)
         refine qC (qu (j:=zn) rfl rfl Kc Zj (by first | rfl | omega) (by first | decide | omega | simp) rfl) rfl ?_
         refine qC (qu (j:=0) rfl rfl Zj Q3 (by first | rfl | omega) (by first | decide | omega | simp) rfl) rfl ?_
         refine qC (qu (j:=j) rfl rfl Q3 ty3 (by first | rfl | omega) (by first | decide | omega | simp) rfl) rfl ?_
         refine qC (ql (v:=zi (wA wl 0 (zn:Int) j)) rfl ty3 rfl (qh.own (b:=b8) zM (YZ hwle hz16 (d:=0) zd hj64))) rfl ?_
         refine zq 1 rfl ?_
         rw [decide_eq_false ha1]
         refine zq 12 rfl ?_
         first | refine qC (qX rfl rfl) rfl ?_ | refine qC (qY rfl rfl) rfl ?_
         refine zq 6 rfl ?_
         refine qC (qu (j:=zn) rfl rfl Kc Zj (by first | rfl | omega) (by first | decide | omega | simp) rfl) rfl ?_
         refine zq 1 rfl ?_
         refine qC (qu (j:=1) rfl rfl Zj Q3 (by first | rfl | omega) (by first | decide | omega | simp) rfl) rfl ?_
         refine zq 1 rfl ?_
         refine qC (qu (j:=j) rfl rfl Q3 ty3 (by first | rfl | omega) (by first | decide | omega | simp) rfl) rfl ?_
         refine zq 1 rfl ?_
         refine qC (ql (v:=zi (wA wl 1 (zn:Int) j)) rfl ty3 rfl (qh.own (b:=b8) zM (YZ hwle hz16 (d:=1) zd hj64))) rfl ?_
         refine zq 2 rfl ?_
         rw [decide_eq_false hb1]
         refine zq 14 rfl ?_
         first | refine qC (qX rfl rfl) rfl ?_ | refine qC (qY rfl rfl) rfl ?_
         first | refine qC (qX rfl rfl) rfl ?_ | refine qC (qY rfl rfl) rfl ?_
         refine z4 (za 5 rfl ?_)
         refine qF rfl rfl (qM (m:=((j+1:Nat):Int)) ((qW zO).trans zO)) rfl ?_
         refine za 2 rfl ?_
         refine qI (j+1) (by show j+1≤64; omega) (by show 64-(j+1)<64-j; omega) (qc rfl (qc rfl (qc rfl (qc rfl (qc rfl (qc rfl (qc rfl (qc rfl (qc rfl (qc rfl (qc rfl (qi _)))))))))))) rfl zH
       ·skip
        refine za 4 rfl ?_
        refine qF rfl rfl (qM (m:=((k+1:Nat):Int)) ((qW zO).trans zO)) rfl ?_
        refine za 2 rfl ?_
        refine qI (k+1,dk.set zn false) ⟨by show k+1≤gs.length; omega,by show _=qbw dl ((t2F F).take (k+1)); rw [qf8 hzk,← hdk]⟩ (by show gs.length-(k+1)<gs.length-k; omega) (qc rfl (qc rfl (qc rfl (qc rfl (qc rfl (qc rfl (qc rfl (qc rfl (qc rfl (qi _)))))))))) rfl zH
      ·skip
       refine za 5 rfl ?_
       refine qF rfl rfl (qM (m:=((i+1:Nat):Int)) ((qW zO).trans zO)) rfl ?_
       refine za 2 rfl ?_
       refine qI ⟨i+1,T,(Jk F).1,HF2,x2,sl,wl,dk,st,ut,uc⟩ ⟨by show i+1≤acts.length; omega,by show i+1≤80; omega,by show T≤8+4*(i+1); omega,hF2,by rw [show dk=qbw dl (t2F F) by rw [hdk,List.take_of_length_le (by rw [← hnums,List.length_map]; omega)]]; exact hI2⟩ (by show acts.length-(i+1)<acts.length-i; omega) (qc rfl (qc rfl (qc rfl (qc rfl (qc rfl (qc rfl (qc rfl (qi _)))))))) rfl (show qr _ ((b7,.cells 27 128 ((sl).map (Value.int .i64)))::(b8,.cells 28 8192 ((wl).map (Value.int .i64)))::(b9,.cells 29 64 ((dk).map Value.bool))::(HF2++H)) from zH)
 ·skip
  refine za 2 rfl (zI .nil Tryz.call19 rfl hT qdo (za 2 rfl ?_))
  refine qj (H2:=H) Tryz.results3 rfl (.nil _) zH ?_
  exact ⟨rfl,rfl⟩
theorem qa9 {z:Int} {acts:List qdV} {ada:Option Addr} {capa:Nat} (hlen:acts.length≤9223372036854775807) (hin:∀ a∈acts,a.In):Zu Tryz.prog (fun w=>Tab w∧Xq w ada (acts.flatMap laC)) 3 [zi z,.slice ada acts.length capa] (.bool true):=fun w0 H hT=>qdp (Holds.old hT.2) hlen hin hT.1
end Go.Proofs.YtincjohoncljoaaGreatDoor
