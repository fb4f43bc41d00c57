/-
  Own work: contracts of functions that the statement reaches, and plain facts on what they compute; each theorem says its conditions.
-/
import Derived.Test.YtincjohoncljoaaGreatDoorLhT3
import Derived.Test.YtincjohoncljoaaGreatDoorLhS2
import Derived.Test.YtincjohoncljoaaGreatDoorLhS3
import Derived.Test.YtincjohoncljoaaGreatDoorShelf
import Derived.Test.YtincjohoncljoaaGreatDoorLhS1
import Derived.Test.YtincjohoncljoaaGreatDoorLhA
set_option linter.all false
set_option linter.unusedSimpArgs false
set_option linter.unusedVariables false
set_option maxHeartbeats 16000000
namespace Go.Proofs.YtincjohoncljoaaGreatDoor
open Go Go.Sl
variable {pb n i j wb fi b5 b2 cap b3 now turn s bw k bb tb T:Nat} {on l ids:List Int} {v f:Value} {id c z:Int} {w0:World} {H HP X HB HBk:qe} {ca sl xs:List Value} {R:Value→qe→Prop} {Q Rs:List (Int × Int)} {ad:Option Addr} {L:List Tm} {bs:List Nat} {e:TypeId}
attribute [local irreducible] W
structure Qe where
 shut:Bool
 prog:Int
def woC (o:Qe):List Value:=[.bool o.shut,zi o.prog]
theorem JG (o:Qe):(woC o).length=2:=rfl
def zL (pb n:Nat) (A:List Qe) (on:List Int):List Value:=zp pb::zi ((n:Nat):Int)::(A.flatMap woC++on.map (Value.int .i64))
def Ze:Qe:=⟨false,0⟩
theorem qdZ (A:List Qe) (on:List Int):(zL pb n A on).length=A.length*2+on.length+2:=by
 unfold zL; rw [List.length_cons,List.length_cons,List.length_append,zg JG,List.length_map]
theorem qgv {A:List Qe} {o:Qe} (h:A[i]?=some o) (hj:j<2):(zL pb n A on)[2+i*2+j]?=(woC o)[j]?:=by
 unfold zL
 rw [show 2+i*2+j=(i*2+j)+1+1 by omega,List.getElem?_cons_succ,List.getElem?_cons_succ,List.getElem?_append_left (qaC JG h hj),ZT JG h hj]
theorem qlO {A:List Qe} {o:Qe} (h:A[i]?=some o) (hj:j<2):Nat.blt (2+i*2+j) (zL pb n A on).length=true:=by
 have:=(List.getElem?_eq_some_iff.1 h).1
 rw [qdZ,Nat.blt_eq]; omega
theorem qjZ {A:List Qe} {o:Qe} (h:A[i]?=some o):(zL pb n A on)[2+i*2+0]?=some (.bool o.shut):=qgv (j:=0) h zd
theorem qmk {A:List Qe} {o o':Qe} (h:A[i]?=some o) (hj:j<2) (e:(woC o).set j v=woC o'):(zL pb n A on).set (2+i*2+j) v=zL pb n (A.set i o') on:=by
 unfold zL
 rw [show 2+i*2+j=(i*2+j)+1+1 by omega,List.set_cons_succ,List.set_cons_succ,List.set_append_left _ _ (qaC JG h hj),qaZ JG h hj e]
theorem qeL {A:List Qe} {o:Qe} {x:Bool} (h:A[i]?=some o):(zL pb n A on).set (2+i*2+0) (.bool x)=zL pb n (A.set i { o with shut:=x }) on:=qmk (j:=0) h zd rfl
theorem qmj {A:List Qe} {o':Qe} (h:i<A.length):zf (zL pb n A on) (2+i*2) (woC o')=zL pb n (A.set i o') on:=by
 have e:=YE JG (l:=A) o' h
 have hl:=zg JG A
 unfold zf at e ⊢
 unfold zL
 rw [← e,show 2+i*2=(i*2)+1+1 by omega,List.take_succ_cons,List.take_succ_cons,show (i*2)+1+1+(woC o').length=(i*2+(woC o').length)+1+1 by omega,List.drop_succ_cons,List.drop_succ_cons,List.take_append_of_le_length (by rw [hl]; omega),List.drop_append_of_le_length (by rw [hl,JG]; omega)]
 simp only [List.cons_append,List.append_assoc]
theorem qjY {A:List Qe} {o:Qe} (h:A[i]?=some o):((zL pb n A on).drop (2+i*2)).take 2=woC o:=by
 apply List.ext_getElem?
 intro j
 by_cases c:j<2
 ·rw [List.getElem?_take,if_pos c,List.getElem?_drop,qgv h c]
 ·rw [List.getElem?_eq_none (by rw [List.length_take]; omega),List.getElem?_eq_none (by rw [JG]; omega)]
structure qcN (n:Nat) (A:List Qe) (on:List Int):Prop where
 len:A.length=256
 rng:∀ o∈A,0≤o.prog∧o.prog≤16
 on32:on.length=32
 onr:∀ x∈on,0≤x∧x≤(n:Int)
theorem qcN.set {A:List Qe} (h:qcN n A on) (i:Nat) {o:Qe} (hp:0≤o.prog∧o.prog≤16):qcN n (A.set i o) on:=⟨by rw [List.length_set,h.len],fun x hx=>by
 rcases List.mem_or_eq_of_mem_set hx with hx | rfl
 ·exact h.rng x hx
 ·exact hp,h.on32,h.onr⟩
theorem qcN.at {A:List Qe} (h:qcN n A on) (hi:i<256):∃ o,A[i]?=some o:=⟨_,List.getElem?_eq_getElem (by rw [h.len]; exact hi)⟩
inductive J5 (wb n:Nat) (Q Rs:List (Int × Int)) (As:List Qe) (on:List Int):qe→Prop
 | mk {pb:Nat} {HP:qe} (hP:z6 pb n Q Rs HP) (hA:qcN n As on) (hn:n≤64):J5 wb n Q Rs As on ((wb,.cells 179 546 (zL pb n As on))::HP)
theorem qgs (hi:id<0):Zu Tryz.prog (fun _=>True) 95 [zp wb,zi id,f] (zi 2):=by
 intro w0 H hT
 refine qd Tryz.func95 rfl Tryz.ntmps95 rfl rfl (za 7 rfl ?_)
 refine W_x (qE rfl rfl Yp) (fun _ h=>by cases h) rfl ?_
 refine za 6 rfl ?_
 first | rw [decide_eq_true (by omega)] | rw [decide_eq_false (by omega)]
 refine za 10 rfl ?_
 refine qj (H2:=H) Tryz.results95 rfl (.nil _) zH ?_
 exact ⟨rfl,rfl⟩
theorem qgt (hi:256≤id):Zu Tryz.prog (fun _=>True) 95 [zp wb,zi id,f] (zi 2):=by
 intro w0 H hT
 refine qd Tryz.func95 rfl Tryz.ntmps95 rfl rfl (za 7 rfl ?_)
 refine W_x (qE rfl rfl Yp) (fun _ h=>by cases h) rfl ?_
 refine za 6 rfl ?_
 first | rw [decide_eq_true (by omega)] | rw [decide_eq_false (by omega)]
 refine za 5 rfl ?_
 first | rw [decide_eq_true (by omega)] | rw [decide_eq_false (by omega)]
 refine za 7 rfl ?_
 refine qj (H2:=H) Tryz.results95 rfl (.nil _) zH ?_
 exact ⟨rfl,rfl⟩
theorem qfl (hi:¬ (0≤id∧id<256)):Zu Tryz.prog (fun _=>True) 95 [zp wb,zi id,f] (zi 2):=by
 by_cases h:id<0
 ·exact qgs h
 ·exact qgt zO
theorem qaM (hfi:∀ (args:Array Value) (w:World),(callFunc fi args).run Tryz.prog w=.ok (.enter fi args) w) (hi:i<256) (hdo:qk Tryz.prog w0 fi (#[]++#[.pointer (some ⟨wb,2+i*2,none⟩)]++ca.toArray) H R) (hE:∀ v H2,R v H2→∃ e,v=zi e) :qk Tryz.prog w0 95 #[zp wb,zi (i:Int),Value.func (.func fi) #[] ca.toArray] (H) (R):=by
 refine qd (l:=[zp wb,zi (i:Int),Value.func (.func fi) #[] ca.toArray]) Tryz.func95 rfl Tryz.ntmps95 rfl rfl ?_
 refine za 7 rfl ?_
 refine W_x (qE rfl rfl Yp) (fun _ h=>by cases h) rfl ?_
 refine za 6 rfl ?_
 first | rw [decide_eq_true (by omega)] | rw [decide_eq_false (by omega)]
 refine za 5 rfl ?_
 first | rw [decide_eq_true (by omega)] | rw [decide_eq_false (by omega)]
 refine za 12 rfl ?_
 refine zh (j:=i) rfl rfl qlV Jg (by first | rfl | omega) (by first | decide | omega | simp) rfl rfl ?_
 refine JR (fa:=#[]) (ca:=ca.toArray) rfl (.cons rfl .nil) hfi rfl (hdo) ?_
 rintro v H' hR
 refine za 2 rfl ?_
 refine qj (H2:=H') Tryz.results95 rfl (.nil _) zH ?_
 exact hR
theorem KQ (Q:List (Int × Int)) (z:Int):Qr Q [z]=(ZL Q z,if (whQ Q z).isSome=true then 1 else 0):=by
 unfold Qr; simp
theorem qgu {As:List Qe} (hP:z6 pb n Q Rs HP) (hn:n≤64) {o:Qe} (hA:As[i]?=some o) {b7:Nat} (hc:0≤c∧c≤1000) :qk Tryz.prog w0 244 #[.pointer (some ⟨wb,2+i*2,none⟩),zp b5,zp b2,zp b7] ((b5,.cells 3 1 [zi c])::(b2,.cells 67 1 [zp wb])::(b7,.cells 3 1 [zi (i:Int)])::(wb,.cells 179 546 (zL pb n As on))::(HP++H)) (fun v H'=>∃ HP2,z6 pb n (ZL Q (i:Int)) Rs HP2∧v=zi 0∧H'=(b5,.cells 3 1 [zi (if o.shut=true then c else c+1)])::(b2,.cells 67 1 [zp wb])::(b7,.cells 3 1 [zi (i:Int)])::(wb,.cells 179 546 (zL pb n (As.set i { o with shut:=true }) on))::(HP2++H)):=by
 refine qd (l:=[.pointer (some ⟨wb,2+i*2,none⟩),zp b5,zp b2,zp b7]) Tryz.func244 rfl Tryz.ntmps244 rfl rfl ?_
 refine za 8 rfl ?_
 refine qf (v:=.bool o.shut) rfl ty4 rfl (qh.own (b:=wb) zM (qjZ hA)) rfl ?_
 refine za 2 rfl ?_
 refine qq (p:=o.shut=false) rfl (by simp) (fun q0=>?_) (fun q0=>?_)
 ·skip
  refine Zn ?_
  refine qf (v:=zi c) rfl ty3 rfl (qh.own (b:=b5) zM rfl) rfl ?_
  refine qF rfl rfl (qM (m:=c+1) (qW zO)) rfl ?_
  refine qy (l':=[zi (c+1)]) rfl rfl ty3 rfl rfl (b:=b5) zM rfl rfl zU ?_
  refine za 2 rfl ?_
  refine zy [(b2,.cells 67 1 [zp wb]),(b7,.cells 3 1 [zi (i:Int)]),(wb,.cells 179 546 (zL pb n As on))] zk ?_
  refine qm 0 rfl zK zK zK rfl rfl (ql (v:=zp wb) rfl Yp rfl (qh.own (b:=b2) zM rfl)) rfl ?_
  refine zw [1,2] rfl rfl ?_
  refine qm 3 rfl zK zK zK rfl rfl (ql (v:=zp pb) rfl Yx rfl (qh.own (b:=wb) zM rfl)) rfl ?_
  refine qm 4 rfl zK zK zK rfl rfl (ql (v:=zi (i:Int)) rfl ty3 rfl (qh.own (b:=b7) zM rfl)) rfl ?_
  refine qJ 5 zH zK rfl rfl ?_
  refine qv (l:=[zi (i:Int)]) qZ ty3 (.cons rfl rfl rfl rfl rfl .nil) rfl rfl rfl rfl rfl rfl rfl (fun b18=>?_)
  refine qs (WC_goal ?_)
  refine qJ 6 zH zK rfl rfl ?_
  refine qn (zc2 rfl rfl) Tryz.call179 rfl ((KV hP hn (ids:=[(i:Int)]) (ad:=some ⟨b18,0,none⟩) (cap:=1) (by show 1≤1000000; decide) (Holds.own (b:=b18) zM) (H:=(b18,.cells 3 1 [zi (i:Int)])::(b5,.cells 3 1 [zi (c+1)])::(b2,.cells 67 1 [zp wb])::(b7,.cells 3 1 [zi (i:Int)])::(wb,.cells 179 546 (zL pb n As on))::H)).hsub zH) ?_
  rintro v H' ⟨HP2,hP2,rfl,rfl⟩
  rw [KQ] at hP2
  refine qs (WC_goal (WC_done zH zK (za 4 rfl ?_)))
  refine qy (l':=zL pb n (As.set i { o with shut:=true }) on) rfl rfl ty4 rfl rfl (b:=wb) zM (qlO hA zd) (qeL hA) zU ?_
  refine za 4 rfl ?_
  refine qj (H2:=(b5,.cells 3 1 [zi (c+1)])::(b2,.cells 67 1 [zp wb])::(b7,.cells 3 1 [zi (i:Int)])::(wb,.cells 179 546 (zL pb n (As.set i { o with shut:=true }) on))::(HP2++H)) Tryz.results244 rfl (.nil _) zH ?_
  refine ⟨HP2,hP2,rfl,?_⟩
  rw [if_neg (by rw [q0]; decide)]
 ·skip
  refine za 2 rfl ?_
  refine zy [(b2,.cells 67 1 [zp wb]),(b7,.cells 3 1 [zi (i:Int)]),(wb,.cells 179 546 (zL pb n As on))] zk ?_
  refine qm 0 rfl zK zK zK rfl rfl (ql (v:=zp wb) rfl Yp rfl (qh.own (b:=b2) zM rfl)) rfl ?_
  refine zw [1,2] rfl rfl ?_
  refine qm 3 rfl zK zK zK rfl rfl (ql (v:=zp pb) rfl Yx rfl (qh.own (b:=wb) zM rfl)) rfl ?_
  refine qm 4 rfl zK zK zK rfl rfl (ql (v:=zi (i:Int)) rfl ty3 rfl (qh.own (b:=b7) zM rfl)) rfl ?_
  refine qJ 5 zH zK rfl rfl ?_
  refine qv (l:=[zi (i:Int)]) qZ ty3 (.cons rfl rfl rfl rfl rfl .nil) rfl rfl rfl rfl rfl rfl rfl (fun b18=>?_)
  refine qs (WC_goal ?_)
  refine qJ 6 zH zK rfl rfl ?_
  refine qn (zc2 rfl rfl) Tryz.call179 rfl ((KV hP hn (ids:=[(i:Int)]) (ad:=some ⟨b18,0,none⟩) (cap:=1) (by show 1≤1000000; decide) (Holds.own (b:=b18) zM) (H:=(b18,.cells 3 1 [zi (i:Int)])::(b5,.cells 3 1 [zi c])::(b2,.cells 67 1 [zp wb])::(b7,.cells 3 1 [zi (i:Int)])::(wb,.cells 179 546 (zL pb n As on))::H)).hsub zH) ?_
  rintro v H' ⟨HP2,hP2,rfl,rfl⟩
  rw [KQ] at hP2
  refine qs (WC_goal (WC_done zH zK (za 4 rfl ?_)))
  refine qy (l':=zL pb n (As.set i { o with shut:=true }) on) rfl rfl ty4 rfl rfl (b:=wb) zM (qlO hA zd) (qeL hA) zU ?_
  refine za 4 rfl ?_
  refine qj (H2:=(b5,.cells 3 1 [zi c])::(b2,.cells 67 1 [zp wb])::(b7,.cells 3 1 [zi (i:Int)])::(wb,.cells 179 546 (zL pb n (As.set i { o with shut:=true }) on))::(HP2++H)) Tryz.results244 rfl (.nil _) zH ?_
  refine ⟨HP2,hP2,rfl,?_⟩
  rw [if_pos (by simpa using q0)]
theorem qgB {As:List Qe} (hP:z6 pb n Q Rs HP) (hn:n≤64) {o:Qe} (hA:As[i]?=some o) (hi:i<256) (hrow:Holds w0 H ad [zi (i:Int)]) :qk Tryz.prog w0 151 #[zp wb,.slice ad 1 cap] ((wb,.cells 179 546 (zL pb n As on))::(HP++H)) (fun v H'=>∃ HP2,z6 pb n (ZL Q (i:Int)) Rs HP2∧(∃ m,v=zi m)∧H'=(wb,.cells 179 546 (zL pb n (As.set i { o with shut:=true }) on))::(HP2++H)):=by
 refine qd (l:=[zp wb,.slice ad 1 cap]) Tryz.func151 rfl Tryz.ntmps151 rfl rfl ?_
 refine zo ?_
 refine qR (l:=[zp wb]) rfl rfl rfl (fun b2=>?_)
 refine za 3 rfl ?_
 refine qA (l:=[zi 0]) ty3 rfl rfl (fun b5=>?_)
 refine qy (l':=[zi 0]) rfl rfl ty3 rfl rfl (b:=b5) zM rfl rfl zU ?_
 refine za 4 rfl (zY rfl qZ rfl rfl (za 3 rfl ?_))
 refine qV (X:=(Nat × List Qe × List (Int × Int) × qe × Int)) [(2,_),(5,_),(8,_),(9,_)] (fun (z:(Nat × List Qe × List (Int × Int) × qe × Int))=>[(10,zi (z.1:Int))]) (fun _=>_) (fun (z:(Nat × List Qe × List (Int × Int) × qe × Int))=>(b5,.cells 3 1 [zi z.2.2.2.2])::(b2,.cells 67 1 [zp wb])::(wb,.cells 179 546 (zL pb n z.2.1 on))::(z.2.2.2.1++H)) (fun (z:(Nat × List Qe × List (Int × Int) × qe × Int))=>z.1≤1∧(z.1=0→z.2.1=As∧z.2.2.1=Q∧z.2.2.2.2=0)∧(z.1=1→z.2.1=As.set i { o with shut:=true }∧z.2.2.1=ZL Q (i:Int)∧z.2.2.2.2=(if o.shut=true then 0 else 0+1))∧z6 pb n z.2.2.1 Rs z.2.2.2.1) (fun (z:(Nat × List Qe × List (Int × Int) × qe × Int))=>1-z.1) (0,As,Q,HP,0) ⟨Nat.zero_le _,fun _=>⟨rfl,rfl,rfl⟩,fun h=>(by cases h),hP⟩ (qc rfl (qc rfl (qc rfl (qc rfl (qi _))))) (qc rfl (qi _)) rfl zH ?_
 rintro ⟨k,A1,Q1,HP1,c1⟩ ⟨hk,h0,h1,hP1⟩
 dsimp only at hk h0 h1 hP1 ⊢
 simp only [List.cons_append,List.nil_append]
 refine za 4 rfl ?_
 refine qq (p:=k<1) rfl (by rw [decide_eq_true_eq]; omega) (fun q0=>?_) (fun q0=>?_)
 ·skip
  refine za 4 rfl ?_
  obtain rfl:k=0:=by omega
  obtain ⟨e1,e2,rfl⟩:=h0 rfl
  obtain rfl:=e1.symm
  obtain rfl:=e2.symm
  obtain ⟨q0_,p0_,rfl,hc⟩:=hrow.at (i:=0) (v:=.int .i64 (i:Int)) rfl
  refine qN (j:=0) rfl rfl qZ ty3 rfl zd rfl rfl ?_
  refine qf (v:=zi (i:Int)) rfl ty3 rfl (by exact hc.up zH) rfl ?_
  refine qA (l:=[zi 0]) ty3 rfl rfl (fun b7=>?_)
  refine qy (l':=[zi (i:Int)]) rfl rfl ty3 rfl rfl (b:=b7) zM rfl rfl zU ?_
  refine za 2 rfl ?_
  refine qf (v:=zp wb) rfl Yp rfl (qh.own (b:=b2) zM rfl) rfl ?_
  refine qf (v:=zi (i:Int)) rfl ty3 rfl (qh.own (b:=b7) zM rfl) rfl ?_
  refine qL .nil (.cons rfl (.cons rfl (.cons rfl .nil))) rfl ?_
  refine qn (zc3 rfl rfl rfl) Tryz.call95 rfl ((qaM (i:=i) (fi:=244) (ca:=[zp b5,zp b2,zp b7]) Tryz.call244 hi (qgu (b5:=b5) (b2:=b2) (b7:=b7) hP1 hn hA (c:=0) zd (H:=H)) ?_).hsub zH) ?_
  ·rintro v H2 ⟨_,_,e,_⟩
   exact ⟨_,e⟩
  rintro v H' ⟨HP2,hP2,rfl,rfl⟩
  refine za 3 rfl ?_
  refine qF rfl rfl (qM (m:=1) rfl) rfl ?_
  refine za 2 rfl ?_
  refine qI (1,As.set i { o with shut:=true },ZL Q (i:Int),HP2,(if o.shut=true then 0 else 0+1)) ⟨Nat.le_refl _,fun h=>(by cases h),fun _=>⟨rfl,rfl,rfl⟩,hP2⟩ (by show 1-1<1-0; decide) (qc rfl (qc rfl (qc rfl (qc rfl (qc rfl (qi _)))))) rfl zH
 ·skip
  refine za 2 rfl ?_
  refine qf (v:=zi c1) rfl ty3 rfl (qh.own (b:=b5) zM rfl) rfl ?_
  refine za 2 rfl ?_
  refine qj (H2:=(wb,.cells 179 546 (zL pb n A1 on))::(HP1++H)) Tryz.results151 rfl (.nil _) zH ?_
  obtain rfl:k=1:=by omega
  obtain ⟨rfl,rfl,rfl⟩:=h1 rfl
  exact ⟨HP1,hP1,⟨_,rfl⟩,rfl⟩
def z3 (Q Rs:List (Int × Int)) (As:List Qe) (i:Nat):List (Int × Int) × List Qe × Int:=if (inR Rs (i:Int)).isSome=true then (Q,As,21) else (ZL Q (i:Int),As.set i Ze,0)
theorem qdH {As:List Qe} (h:inR Rs (i:Int)=some c):z3 Q Rs As i=(Q,As,21):=by unfold z3; rw [h]; rfl
theorem qgb {As:List Qe} (h:inR Rs (i:Int)=none):z3 Q Rs As i=(ZL Q (i:Int),As.set i Ze,0):=by unfold z3; rw [h]; rfl
theorem qkI {p x:Nat × Blk} {Y:qe} (hp:p∈X):p∈x::(X++Y):=List.mem_cons_of_mem _ (List.mem_append_left _ hp)
theorem qgw {As:List Qe} (hm:(wb,.cells 179 546 (zL pb n As on))∈H) :qG Tryz.prog w0 H 124 [zp wb] (zp pb):=by
 refine qd Tryz.func124 rfl Tryz.ntmps124 rfl rfl (za 6 rfl ?_)
 refine W_x (qE rfl rfl Yp) (fun _ h=>by cases h) rfl ?_
 refine za 7 rfl ?_
 refine qf (v:=zp pb) rfl Yx rfl (qh.own (b:=wb) hm rfl) rfl ?_
 refine za 2 rfl ?_
 refine qj (H2:=H) Tryz.results124 rfl (.nil _) zH ?_
 exact ⟨rfl,rfl⟩
theorem qeN {As:List Qe} (hP:z6 pb n Q Rs HP) (hm:(wb,.cells 179 546 (zL pb n As on))∈H) (hq:∀ p∈HP,p∈H) :qG Tryz.prog w0 H 158 [zp wb,zi id] (JY (inR Rs id)):=by
 refine qd Tryz.func158 rfl Tryz.ntmps158 rfl rfl (za 6 rfl (qB (zc1 rfl) Tryz.call124 rfl (qgw hm) (qH rfl rfl ?_)))
 refine qB (zc2 rfl rfl) Tryz.call252 rfl (hP.Runs_q hq (id:=id)) ?_
 rcases hir:inR Rs id with _ | cx
 ·skip
  rw [show JY none=.tuple #[zi 0,.bool false] from rfl]
  refine za 5 rfl ?_
  refine qP (H2:=H) Tryz.results158 rfl rfl (.nil _) zH ?_
  exact ⟨rfl,rfl⟩
 ·skip
  rw [show JY (some cx)=.tuple #[zi cx,.bool true] from rfl]
  refine za 5 rfl ?_
  refine qP (H2:=H) Tryz.results158 rfl rfl (.nil _) zH ?_
  exact ⟨rfl,rfl⟩
theorem qfm {As:List Qe} (hP:z6 pb n Q Rs HP) (hn:n≤64) {o:Qe} (hA:As[i]?=some o) :qk Tryz.prog w0 258 #[.pointer (some ⟨wb,2+i*2,none⟩),zp b2,zp b3] ((b2,.cells 67 1 [zp wb])::(b3,.cells 3 1 [zi (i:Int)])::(wb,.cells 179 546 (zL pb n As on))::(HP++H)) (fun v H'=>∃ HP2,z6 pb n (z3 Q Rs As i).1 Rs HP2∧v=zi (z3 Q Rs As i).2.2∧H'=(b2,.cells 67 1 [zp wb])::(b3,.cells 3 1 [zi (i:Int)])::(wb,.cells 179 546 (zL pb n (z3 Q Rs As i).2.1 on))::(HP2++H)):=by
 have hil:=(List.getElem?_eq_some_iff.1 hA).1
 refine qd (l:=[.pointer (some ⟨wb,2+i*2,none⟩),zp b2,zp b3]) Tryz.func258 rfl Tryz.ntmps258 rfl rfl ?_
 refine za 5 rfl ?_
 refine qf (v:=zp wb) rfl Yp rfl (qh.own (b:=b2) zM rfl) rfl ?_
 refine qf (v:=zi (i:Int)) rfl ty3 rfl (qh.own (b:=b3) zM rfl) rfl ?_
 refine qB (zc2 rfl rfl) Tryz.call158 rfl (qeN (id:=(i:Int)) hP (As:=As) (on:=on) zM (fun p hp=>List.mem_cons_of_mem _ (List.mem_cons_of_mem _ (qkI hp)))) ?_
 rcases hir:inR Rs (i:Int) with _ | cx
 ·skip
  rw [show JY none=.tuple #[zi 0,.bool false] from rfl]
  refine za 12 rfl ?_
  refine zy [(b2,.cells 67 1 [zp wb]),(b3,.cells 3 1 [zi (i:Int)]),(wb,.cells 179 546 (zL pb n As on))] zk ?_
  refine qm 0 rfl zK zK zK rfl rfl (ql (v:=zp wb) rfl Yp rfl (qh.own (b:=b2) zM rfl)) rfl ?_
  refine zw [1,2] rfl rfl ?_
  refine qm 3 rfl zK zK zK rfl rfl (ql (v:=zp pb) rfl Yx rfl (qh.own (b:=wb) zM rfl)) rfl ?_
  refine qm 4 rfl zK zK zK rfl rfl (ql (v:=zi (i:Int)) rfl ty3 rfl (qh.own (b:=b3) zM rfl)) rfl ?_
  refine qJ 5 zH zK rfl rfl ?_
  refine qv (l:=[zi (i:Int)]) qZ ty3 (.cons rfl rfl rfl rfl rfl .nil) rfl rfl rfl rfl rfl rfl rfl (fun b19=>?_)
  refine qs (WC_goal ?_)
  refine qJ 6 zH zK rfl rfl ?_
  refine qn (zc2 rfl rfl) Tryz.call179 rfl ((KV hP hn (ids:=[(i:Int)]) (ad:=some ⟨b19,0,none⟩) (cap:=1) (by show 1≤1000000; decide) (Holds.own (b:=b19) zM) (H:=(b19,.cells 3 1 [zi (i:Int)])::(b2,.cells 67 1 [zp wb])::(b3,.cells 3 1 [zi (i:Int)])::(wb,.cells 179 546 (zL pb n As on))::H)).hsub zH) ?_
  rintro v H' ⟨HP2,hP2,rfl,rfl⟩
  rw [KQ] at hP2
  refine qs (WC_goal (WC_done zH zK (za 2 rfl ?_)))
  refine zb (l:=woC Ze) Jg pl176 .nil rfl rfl rfl ?_
  refine qbB rfl rfl ?_
  refine qp (l':=zL pb n (As.set i Ze) on) rfl rfl Jg rfl rfl (b:=wb) zM (by show 2+i*2+2≤(zL pb n As on).length; rw [qdZ]; omega) (qmj (o':=Ze) hil) zU ?_
  refine za 4 rfl ?_
  refine qj (H2:=(b2,.cells 67 1 [zp wb])::(b3,.cells 3 1 [zi (i:Int)])::(wb,.cells 179 546 (zL pb n (As.set i Ze) on))::(HP2++H)) Tryz.results258 rfl (.nil _) zH ?_
  rw [qgb hir]
  exact ⟨HP2,hP2,rfl,rfl⟩
 ·skip
  rw [show JY (some cx)=.tuple #[zi cx,.bool true] from rfl]
  refine za 13 rfl ?_
  refine qj (H2:=(b2,.cells 67 1 [zp wb])::(b3,.cells 3 1 [zi (i:Int)])::(wb,.cells 179 546 (zL pb n As on))::(HP++H)) Tryz.results258 rfl (.nil _) zH ?_
  rw [qdH hir]
  exact ⟨HP,hP,rfl,rfl⟩
theorem qfn {As:List Qe} (hP:z6 pb n Q Rs HP) (hn:n≤64) {o:Qe} (hA:As[i]?=some o) (hi:i<256) :qk Tryz.prog w0 162 #[zp wb,zi (i:Int)] ((wb,.cells 179 546 (zL pb n As on))::(HP++H)) (fun v H'=>∃ HP2,z6 pb n (z3 Q Rs As i).1 Rs HP2∧v=zi (z3 Q Rs As i).2.2∧H'=(wb,.cells 179 546 (zL pb n (z3 Q Rs As i).2.1 on))::(HP2++H)):=by
 refine qd (l:=[zp wb,zi (i:Int)]) Tryz.func162 rfl Tryz.ntmps162 rfl rfl ?_
 refine zo ?_
 refine qR (l:=[zp wb]) rfl rfl rfl (fun b2=>?_)
 refine qR (l:=[zi (i:Int)]) rfl rfl rfl (fun b3=>?_)
 refine za 3 rfl ?_
 refine qf (v:=zp wb) rfl Yp rfl (qh.own (b:=b2) zM rfl) rfl ?_
 refine qf (v:=zi (i:Int)) rfl ty3 rfl (qh.own (b:=b3) zM rfl) rfl ?_
 refine qL .nil (.cons rfl (.cons rfl .nil)) rfl ?_
 refine qn (zc3 rfl rfl rfl) Tryz.call95 rfl ((qaM (i:=i) (fi:=258) (ca:=[zp b2,zp b3]) Tryz.call258 hi (qfm (b2:=b2) (b3:=b3) hP hn hA (H:=H)) ?_).hsub zH) ?_
 ·rintro v H2 ⟨_,_,e,_⟩
  exact ⟨_,e⟩
 rintro v H' ⟨HP2,hP2,rfl,rfl⟩
 refine za 2 rfl ?_
 refine qj (H2:=(wb,.cells 179 546 (zL pb n (z3 Q Rs As i).2.1 on))::(HP2++H)) Tryz.results162 rfl (.nil _) zH ?_
 exact ⟨HP2,hP2,rfl,rfl⟩
theorem qmi {As:List Qe} {o:Qe} (hA:As[i]?=some o) (hm:(wb,.cells 179 546 (zL pb n As on))∈H) :qk Tryz.prog w0 191 #[.pointer (some ⟨wb,2+i*2,none⟩),zp b5] ((b5,.cells 176 2 (woC Ze))::H) (fun v H'=>v=zi 0∧H'=(b5,.cells 176 2 (woC o))::H):=by
 refine qd (l:=[.pointer (some ⟨wb,2+i*2,none⟩),zp b5]) Tryz.func191 rfl Tryz.ntmps191 rfl rfl ?_
 refine za 6 rfl ?_
 refine qK (vs:=woC o) rfl Jg rfl (b:=wb) (List.mem_cons_of_mem _ hm) (by show Nat.ble (2+i*2+2) (zL pb n As on).length=true; rw [qdZ,Nat.ble_eq]; have:=(List.getElem?_eq_some_iff.1 hA).1; omega) (qjY hA) rfl ?_
 refine qp (l':=woC o) rfl rfl Jg rfl rfl (b:=b5) zM (by exact Nat.le_refl 2) rfl zU ?_
 refine za 4 rfl ?_
 refine qj (H2:=(b5,.cells 176 2 (woC o))::H) Tryz.results191 rfl (.nil _) zH ?_
 exact ⟨rfl,rfl⟩
theorem qmh {As:List Qe} {o:Qe} (hi:i<256) (hA:As[i]?=some o) (hm:(wb,.cells 179 546 (zL pb n As on))∈H) :qG Tryz.prog w0 H 100 [zp wb,zi (i:Int)] (.agg (woC o).toArray):=by
 refine qd Tryz.func100 rfl Tryz.ntmps100 rfl rfl (zo ?_)
 refine qA (l:=woC Ze) Jg rfl rfl (fun b4=>?_)
 refine za 2 rfl ?_
 refine qA (l:=woC Ze) Jg rfl rfl (fun b5=>?_)
 refine za 4 rfl (qL .nil (.cons rfl .nil) rfl ?_)
 refine qn (zc3 rfl rfl rfl) Tryz.call95 rfl ((qaM (i:=i) (fi:=191) (ca:=[zp b5]) Tryz.call191 hi (qmi (b5:=b5) hA (by repeat (first | exact hm | exact List.mem_cons_self | apply List.mem_cons_of_mem | apply List.mem_append_right)) (H:=(b4,.cells 176 2 (woC Ze))::H)) ?_).hsub zH) ?_
 ·rintro v H2 ⟨e,_⟩
  exact ⟨_,e⟩
 rintro v H' ⟨rfl,rfl⟩
 refine za 2 rfl ?_
 refine qK (vs:=woC o) rfl Jg rfl (b:=b5) zM rfl rfl rfl ?_
 refine qp (l':=woC o) rfl rfl Jg rfl rfl (b:=b4) zM (by exact Nat.le_refl 2) rfl zU ?_
 refine qs ?_
 refine ZZ (H2:=H) Tryz.results100 rfl (.nil _) Jg rfl zM rfl zH ?_
 exact ⟨rfl,rfl⟩
theorem qjX (hi:¬ (0≤id∧id<256)):Zu Tryz.prog (fun _=>True) 100 [zp wb,zi id] (.agg (woC Ze).toArray):=by
 intro w0 H hT
 refine qd Tryz.func100 rfl Tryz.ntmps100 rfl rfl (zo ?_)
 refine qA (l:=woC Ze) Jg rfl rfl (fun b4=>?_)
 refine za 2 rfl ?_
 refine qA (l:=woC Ze) Jg rfl rfl (fun b5=>?_)
 refine za 4 rfl (qL .nil (.cons rfl .nil) rfl ?_)
 refine zI (zc3 rfl rfl rfl) Tryz.call95 rfl (T:=fun _=>True) trivial (qfl hi ) ?_
 refine za 2 rfl ?_
 refine qK (vs:=woC Ze) rfl Jg rfl (b:=b5) zM rfl rfl rfl ?_
 refine qp (l':=woC Ze) rfl rfl Jg rfl rfl (b:=b4) zM (by exact Nat.le_refl 2) rfl zU ?_
 refine qs ?_
 refine ZZ (H2:=H) Tryz.results100 rfl (.nil _) Jg rfl zM rfl zH ?_
 exact ⟨rfl,rfl⟩
def ofW (As:List Qe) (id:Int):Qe:=if 0≤id∧id<256 then As.getD id.toNat Ze else Ze
theorem qeh {As:List Qe} {o:Qe} (hi:i<256) (h:As[i]?=some o):ofW As (i:Int)=o:=by
 unfold ofW; rw [if_pos (by omega),show ((i:Nat):Int).toNat=i by omega,List.getD_eq_getElem?_getD,h]; rfl
theorem qeU {As:List Qe} (h:¬ (0≤id∧id<256)):ofW As id=Ze:=if_neg h
theorem wof_q {As:List Qe} (hA:qcN n As on) (hm:(wb,.cells 179 546 (zL pb n As on))∈H) :qG Tryz.prog w0 H 100 [zp wb,zi id] (.agg (woC (ofW As id)).toArray):=by
 by_cases hi:0≤id∧id<256
 ·obtain ⟨i,rfl⟩:∃ i:Nat,id=(i:Int):=⟨id.toNat,by omega⟩
  obtain ⟨o,ho⟩:=hA.at (i:=i) zO
  rw [qeh (by omega) ho]
  exact qmh zO ho hm
 ·rw [qeU hi]
  exact (qjX hi).at trivial
theorem qkC {As:List Qe} (h:qcN n As on) (id:Int):0≤(ofW As id).prog∧(ofW As id).prog≤16:=by
 by_cases hi:0≤id∧id<256
 ·obtain ⟨i,rfl⟩:∃ i:Nat,id=(i:Int):=⟨id.toNat,by omega⟩
  obtain ⟨o,ho⟩:=h.at (i:=i) zO
  rw [qeh (by omega) ho]
  exact h.rng o (List.mem_of_getElem? ho)
 ·rw [qeU hi]; decide
theorem qj2 {As:List Qe} (hA:qcN n As on) (hm:(wb,.cells 179 546 (zL pb n As on))∈H) :qG Tryz.prog w0 H 73 [zp wb,zi id] (.tuple #[zi (max ((ofW As id).prog-1) 0),.bool (decide (0<(ofW As id).prog))]):=by
 have hpr:=qkC hA id
 refine qd Tryz.func73 rfl Tryz.ntmps73 rfl rfl (za 7 rfl ?_)
 refine qB (zc2 rfl rfl) Tryz.call100 rfl (wof_q (id:=id) hA (by repeat (first | exact hm | exact List.mem_cons_self | apply List.mem_cons_of_mem | apply List.mem_append_right))) ?_
 refine qA (l:=woC Ze) Jg rfl rfl (fun b6=>?_)
 refine qp (l':=woC (ofW As id)) rfl rfl Jg rfl rfl (b:=b6) zM (by exact Nat.le_refl 2) rfl zU ?_
 refine qs (zB zk zK (zq 1 rfl ?_))
 refine qC (ql (v:=zi (ofW As id).prog) rfl ty3 rfl (qh.own (b:=b6) zM rfl)) rfl ?_
 refine qC (QQ rfl rfl (ZY (m:=(ofW As id).prog-1) (qW zO))) rfl ?_
 refine qC (qjM rfl rfl (m:=max ((ofW As id).prog-1) 0) (by split <;> omega)) rfl ?_
 refine zq 1 rfl ?_
 refine qC (ql (v:=zi (ofW As id).prog) rfl ty3 rfl (qh.own (b:=b6) zM rfl)) rfl ?_
 refine zq 3 rfl (z4 ?_)
 refine qP (H2:=H) Tryz.results73 rfl rfl (.nil _) zH ?_
 exact ⟨rfl,rfl⟩
set_option maxRecDepth 100000
theorem qml (hn:1≤n∧n≤64) :qk Tryz.prog w0 106 #[zi (n:Int)] (H) (fun v H'=>∃ wb HW,v=.tuple #[zp wb,zi 0]∧J5 wb n [] [] (List.replicate 256 Ze) (List.replicate 32 0) HW∧H'=HW++H):=by
 refine qd (l:=[zi (n:Int)]) Tryz.func106 rfl Tryz.ntmps106 rfl rfl ?_
 refine za 6 rfl (qn (zc1 rfl) Tryz.call195 rfl (qhj hn) ?_)
 rintro v H' ⟨pb,HP,rfl,hP,rfl⟩
 refine za 16 rfl ?_
 refine zb (l:=zL pb n (List.replicate 256 Ze) (List.replicate 32 0)) ty179 pl179 (.cons rfl rfl rfl rfl rfl (.cons rfl rfl rfl rfl rfl .nil)) rfl zk rfl ?_
 refine qR (l:=zL pb n (List.replicate 256 Ze) (List.replicate 32 0)) rfl rfl rfl (fun wb=>?_)
 refine za 3 rfl (qP Tryz.results106 rfl rfl (.nil _) (.refl _) ?_)
 exact ⟨wb,_,rfl,.mk hP ⟨List.length_replicate,fun o ho=>by rw [List.eq_of_mem_replicate ho]; decide,List.length_replicate,fun x hx=>by rw [List.eq_of_mem_replicate hx]; omega⟩ hn.2,rfl⟩
theorem qaA.hit {c:Nat} {XS:List qe} {l:Qn Int} (h:qaA now L sl XS bs l c turn) {t:Tm} (ht:t∈L):(Ys l t.id).getD qb6=.agg (t.s.v++[Value.int .i64 ((t.turn:Nat):Int)]).toArray∧Jz l t.id=true:=by
 have h1:Jz l t.id=true:=YC.2 (h.keys.mem_iff.2 (List.mem_map_of_mem ht))
 refine ⟨?_,h1⟩
 cases hf:l.find? (fun p=>decide (t.id=p.1)) with
 | none =>
  exfalso
  obtain ⟨p,hp,e⟩:=List.mem_map.1 (YC.1 h1)
  have:=List.find?_eq_none.1 hf p hp
  exact this (decide_eq_true e.symm)
 | some p =>
  have h2a:=List.find?_some hf
  have h2:t.id=p.1:=of_decide_eq_true h2a
  obtain ⟨u,hu,e1,e2⟩:=h.val p (List.mem_of_find?_eq_some hf)
  obtain rfl:u=t:=qcc h.nodup hu ht (by rw [e1,h2])
  unfold Ys
  rw [hf]
  exact e2
theorem qho (a b:Nat × Blk) (H:qe):a::b::H=(a::b::(List.replicate 512 ([]:qe)).flatten)++H:=by
 rw [List.flatten_replicate_nil]; rfl
theorem New_W:qk Tryz.prog w0 275 #[zu ((now:Nat):Int)] H (fun v H'=>∃ bw HW,v=zp bw∧ZA bw now [] 0 HW∧H'=HW++H) :=
 by
 refine New_L.mono ?_
 rintro v H' ⟨bw,bm,rfl,rfl⟩
 refine ⟨bw,_,rfl,.mk (bm:=bm) .new,?_⟩
 exact qho _ _ _
theorem zz.is (h:zz e s v n xs HB) (hn:0<n):∃ b cap,v=.slice (some ⟨b,0,none⟩) n cap∧HB=[(b,.cells e (cap*s) xs)]∧n≤cap∧cap≤maxLen:=by
 cases h with
 | nil=>omega
 | own _ h2 h3=>exact ⟨_,_,rfl,rfl,h2,h3⟩
theorem qje {bm c:Nat} {l:Qn Int} (hok:Z2 sl bs) (hv:(Ys l id).getD qb6=qb6) (hh:Jz l id=false) :qk Tryz.prog w0 357 #[zp bw,zi id] ((bw,.cells 406 523 (Qg now sl bs bm turn))::(bm,.obj (qS (Value.int .i64) l c))::H) (fun v H'=>v=.bool false∧H'=(bw,.cells 406 523 (Qg now sl bs bm turn))::(bm,.obj (qS (Value.int .i64) l c))::H):=by
 refine qd (l:=[zp bw,zi id]) Tryz.func357 rfl Tryz.ntmps357 rfl rfl ?_
 refine zo ?_
 refine qR (l:=[zi id]) rfl rfl rfl (fun b3=>?_)
 refine za 3 rfl ?_
 refine qT (H':=(b3,.cells 3 1 [zi id])::(bw,.cells 406 523 (Qg now sl bs bm turn))::(bm,.obj (qS (Value.int .i64) l c))::H) (.refl _) ?_
 refine zy [(b3,.cells 3 1 [zi id]),(bw,.cells 406 523 (Qg now sl bs bm turn)),(bm,.obj (qS (Value.int .i64) l c))] zk ?_
 refine zw [0,1,2] rfl rfl ?_
 refine qm 3 rfl zK zK zK rfl rfl (ql (v:=.map (some bm)) rfl Kb rfl (qh.own (b:=bw) zM (qb9 hok))) rfl ?_
 refine qm 4 rfl zK zK zK rfl rfl (ql (v:=zi id) rfl ty3 rfl (qh.own (b:=b3) zM rfl)) rfl ?_
 refine qm 5 rfl zK zK zK rfl rfl (Xn (b:=bm) (a:=id) (zE:=qb6) rfl rfl qkQ Kb zEz zM) rfl ?_
 simp only [if_true]
 rw [hv,hh]
 refine zw [6,7,8] rfl rfl ?_
 refine qJ 9 zH zK rfl rfl ?_
 refine qA (l:=[zi 0,zi 0,zu 0,zu 0,zi 0]) qcS rfl rfl (fun b5=>?_)
 refine qs (WC_goal ?_)
 refine qJ 10 zH zK rfl rfl ?_
 refine qp (l':=[zi 0,zi 0,zu 0,zu 0,zi 0]) rfl rfl qcS rfl rfl (b:=b5) zM (by exact Nat.le_refl 5) rfl zU ?_
 refine qs (WC_goal (zw [11] rfl rfl (WC_done zH zK (za 9 rfl ?_))))
 refine qj (H2:=(bw,.cells 406 523 (Qg now sl bs bm turn))::(bm,.obj (qS (Value.int .i64) l c))::H) Tryz.results357 rfl (.nil _) zH ?_
 exact ⟨rfl,rfl⟩
theorem qm0 {bm c tn z:Nat} {XS:List qe} {l:Qn Int} {e:qjT} {v0:Value} (hok:Z2 sl bs) (hmap:QH l c) (hv:(Ys l id).getD qb6=.agg (e.v++[Value.int .i64 ((tn:Nat):Int)]).toArray) (hh:Jz l id=true) (hsp:e.lv<8∧e.slot<64) (hz:bs[e.lv]?=some z) (hz2:z<18446744073709551616) (hlen:(zZ L (e.lv*64+e.slot)).length≤256) (hpos:0<(zZ L (e.lv*64+e.slot)).length) (hsl:sl[(e.lv*64+e.slot)]?=some v0) (hX:XS[(e.lv*64+e.slot)]?=some X) (hO:zz 3 1 v0 (zZ L (e.lv*64+e.slot)).length ((zZ L (e.lv*64+e.slot)).map (Value.int .i64)) X) :qk Tryz.prog w0 357 #[zp bw,zi id] ((bw,.cells 406 523 (Qg now sl bs bm turn))::(bm,.obj (qS (Value.int .i64) l c))::(XS.flatten++H)) (fun v H'=>∃ b cap,v=.bool true∧(Q9 (zZ L (e.lv*64+e.slot)) id).length≤cap∧cap≤maxLen∧H'=(bw,.cells 406 523 (Qg now (sl.set (e.lv*64+e.slot) (Value.slice (some ⟨b,0,none⟩) (Q9 (zZ L (e.lv*64+e.slot)) id).length cap)) (if (Q9 (zZ L (e.lv*64+e.slot)) id).length=0 then (bs.set e.lv (QU z [(e.slot:Int)])) else bs) bm turn))::(bm,.obj (qS (Value.int .i64) (JL l id) c))::((b,.cells 3 (cap*1) (((Q9 (zZ L (e.lv*64+e.slot)) id)).map (Value.int .i64)))::((XS.set (e.lv*64+e.slot) []).flatten++H))):=by
 obtain ⟨b,cap,hv0,hXe,hcap,hmax⟩:=zz.is hO hpos
 have hok2:∀ v,Z2 (sl.set (e.lv*64+e.slot) v) bs:=fun v=>hok.setSl _ v
 have hok3:∀ v,Z2 (sl.set (e.lv*64+e.slot) v) (bs.set e.lv (QU z [(e.slot:Int)])):=fun v=>(hok.setSl _ v).setBs _ _
 have hdl:=qll (zZ L (e.lv*64+e.slot)) id
 refine qd (l:=[zp bw,zi id]) Tryz.func357 rfl Tryz.ntmps357 rfl rfl ?_
 refine zo ?_
 refine qR (l:=[zi id]) rfl rfl rfl (fun b3=>?_)
 refine za 3 rfl ?_
 refine zy [(b3,.cells 3 1 [zi id]),(bw,.cells 406 523 (Qg now sl bs bm turn)),(bm,.obj (qS (Value.int .i64) l c))] zk ?_
 refine zw [0,1,2] rfl rfl ?_
 refine qm 3 rfl zK zK zK rfl rfl (ql (v:=.map (some bm)) rfl Kb rfl (qh.own (b:=bw) zM (qb9 hok))) rfl ?_
 refine qm 4 rfl zK zK zK rfl rfl (ql (v:=zi id) rfl ty3 rfl (qh.own (b:=b3) zM rfl)) rfl ?_
 refine qm 5 rfl zK zK zK rfl rfl (Xn (b:=bm) (a:=id) (zE:=qb6) rfl rfl qkQ Kb zEz zM) rfl ?_
 simp only [if_true]
 rw [hv,hh]
 refine zw [6,7,8] rfl rfl ?_
 refine qJ 9 zH zK rfl rfl ?_
 refine qA (l:=[zi 0,zi 0,zu 0,zu 0,zi 0]) qcS rfl rfl (fun b5=>?_)
 refine qs (WC_goal ?_)
 refine qJ 10 zH zK rfl rfl ?_
 refine qp (l':=(e.v++[Value.int .i64 ((tn:Nat):Int)])) rfl rfl qcS rfl rfl (b:=b5) zM (by exact Nat.le_refl 5) rfl zU ?_
 refine qs (WC_goal (zw [11] rfl rfl (WC_done zH zK (za 9 rfl ?_))))
 refine qK (vs:=e.v) rfl qj4 rfl (b:=b5) zM rfl rfl rfl ?_
 refine qA (l:=zSpot.v) qj4 rfl rfl (fun b7=>?_)
 refine qp (l':=e.v) rfl rfl qj4 rfl rfl (b:=b7) zM (by exact Nat.le_refl 4) rfl zU ?_
 refine za 2 rfl ?_
 refine qT (.cons (.here _) (.cons (.here _) (.cons (.here _) (.cons (.here _) (.cons (.here _) (qi2 hX)))))) ?_
 subst hv0 hXe
 refine qT (H':=(b,.cells 3 (cap*1) (((zZ L (e.lv*64+e.slot))).map (Value.int .i64)))::(b7,.cells 71 4 e.v)::(b5,.cells 408 5 (e.v++[Value.int .i64 ((tn:Nat):Int)]))::(b3,.cells 3 1 [zi id])::(bw,.cells 406 523 (Qg now sl bs bm turn))::(bm,.obj (qS (Value.int .i64) l c))::((XS.set (e.lv*64+e.slot) []).flatten++H)) zH ?_
 refine zy [(b3,.cells 3 1 [zi id]),(b7,.cells 71 4 e.v),(bw,.cells 406 523 (Qg now sl bs bm turn))] zk ?_
 refine zw [0,1] rfl rfl ?_
 refine qm 2 rfl zK zK zK rfl rfl (ql (v:=zi (e.lv:Int)) rfl ty3 rfl (qh.own (b:=b7) zM rfl)) rfl ?_
 refine zw [3] rfl rfl ?_
 refine qm 4 rfl zK zK zK rfl rfl (ql (v:=zi (e.slot:Int)) rfl ty3 rfl (qh.own (b:=b7) zM rfl)) rfl ?_
 refine zw [5,6] rfl rfl ?_
 refine qm 7 rfl zK zK zK rfl rfl (qu (j:=e.lv) rfl rfl qgE qeO rfl hsp.1 (at_:=1+e.lv*64) zO) rfl ?_
 refine qm 8 rfl zK zK zK rfl rfl (qu (j:=e.slot) rfl rfl qeO qZ rfl hsp.2 (at_:=1+(e.lv*64+e.slot)) zO) rfl ?_
 refine qm 9 rfl zK zK zK rfl rfl (ql (v:=.slice (some ⟨b,0,none⟩) (zZ L (e.lv*64+e.slot)).length cap) rfl qZ rfl (qh.own (b:=bw) zM (wh_sl hok hsl))) rfl ?_
 refine qm 10 rfl zK zK zK rfl rfl (qeB .nil (.cons rfl .nil)) rfl ?_
 refine qJ 11 zH zK rfl rfl ?_
 refine qn (zc2 rfl rfl) Tryz.call406 rfl ((qjb (l:=(zZ L (e.lv*64+e.slot))) (id:=id) (bd:=b3) (b:=b) (tot:=cap*1) (cap:=cap) (H:=(b7,.cells 71 4 e.v)::(b5,.cells 408 5 (e.v++[Value.int .i64 ((tn:Nat):Int)]))::(b3,.cells 3 1 [zi id])::(bw,.cells 406 523 (Qg now sl bs bm turn))::(bm,.obj (qS (Value.int .i64) l c))::((XS.set (e.lv*64+e.slot) []).flatten++H)) zO hcap zM).hsub zH) ?_
 rintro v H' ⟨rfl,rfl⟩
 refine qs (WC_goal (zw [12] rfl rfl (WC_done zH zK (qav ?_))))
 refine W_anyS [(b7,.cells 71 4 e.v),(bw,.cells 406 523 (Qg now sl bs bm turn))] 10 zk ?_
 refine WS_take 0 rfl rfl zK zK zK zK rfl rfl (ze rfl) rfl ?_
 refine WS_take 1 rfl rfl zK zK zK zK rfl rfl (qQ rfl qaG zd) rfl ?_
 refine WS_take 2 rfl rfl zK zK zK zK rfl rfl (ql (v:=zi (e.lv:Int)) rfl ty3 rfl (qh.own (b:=b7) zM rfl)) rfl ?_
 refine WS_take 3 rfl rfl zK zK zK zK rfl rfl (qQ rfl qcy zd) rfl ?_
 refine WS_take 4 rfl rfl zK zK zK zK rfl rfl (ql (v:=zi (e.slot:Int)) rfl ty3 rfl (qh.own (b:=b7) zM rfl)) rfl ?_
 refine WS_take 5 rfl rfl zK zK zK zK rfl rfl (ze rfl) rfl ?_
 refine Qp 6 rfl rfl zK zK zK rfl rfl (q8 rfl) rfl ?_
 refine Qp 7 rfl rfl zK zK zK rfl rfl (qQ rfl qdA zd) rfl ?_
 refine Qp 8 rfl rfl zK zK zK rfl rfl (qu (j:=e.lv) rfl rfl qgE qeO rfl hsp.1 (at_:=1+e.lv*64) zO) rfl ?_
 refine WS_take 9 rfl rfl zK zK zK zK rfl rfl (qu (j:=e.slot) rfl rfl qeO qZ rfl hsp.2 (at_:=1+(e.lv*64+e.slot)) zO) rfl ?_
 refine WS_last zH zK rfl rfl ?_
 refine qy (l':=Qg now (sl.set (e.lv*64+e.slot) (Value.slice (some ⟨b,0,none⟩) (Q9 (zZ L (e.lv*64+e.slot)) id).length cap)) bs bm turn) rfl rfl qZ rfl rfl (b:=bw) zM (by rw [qgz hok,Nat.blt_eq]; omega) (qgx hok (by omega)) zU ?_
 refine qs (WC_goal (WC_done (.nil _) zK (za 3 rfl (zY rfl qZ rfl rfl (za 2 rfl ?_)))))
 refine qq (p:=(Q9 (zZ L (e.lv*64+e.slot)) id).length=0) rfl (by rw [decide_eq_true_eq]; omega) (fun q0=>?_) (fun q0=>?_)
 ·skip
  refine W_anyS [(b7,.cells 71 4 e.v),(bw,.cells 406 523 (Qg now (sl.set (e.lv*64+e.slot) (Value.slice (some ⟨b,0,none⟩) (Q9 (zZ L (e.lv*64+e.slot)) id).length cap)) bs bm turn))] 17 zk ?_
  refine WS_take 0 rfl rfl zK zK zK zK rfl rfl (ze rfl) rfl ?_
  refine WS_take 1 rfl rfl zK zK zK zK rfl rfl (qQ rfl qaG zd) rfl ?_
  refine WS_take 2 rfl rfl zK zK zK zK rfl rfl (ql (v:=zi (e.lv:Int)) rfl ty3 rfl (qh.own (b:=b7) zM rfl)) rfl ?_
  refine WS_take 3 rfl rfl zK zK zK zK rfl rfl (ze rfl) rfl ?_
  refine WS_take 4 rfl rfl zK zK zK zK rfl rfl (qQ rfl qaG zd) rfl ?_
  refine WS_take 5 rfl rfl zK zK zK zK rfl rfl (ql (v:=zi (e.lv:Int)) rfl ty3 rfl (qh.own (b:=b7) zM rfl)) rfl ?_
  refine WS_take 6 rfl rfl zK zK zK zK rfl rfl (q8 rfl) rfl ?_
  refine WS_take 7 rfl rfl zK zK zK zK rfl rfl (qQ rfl qdz zd) rfl ?_
  refine WS_take 8 rfl rfl zK zK zK zK rfl rfl (qu (j:=e.lv) rfl rfl qgD z5 rfl hsp.1 (at_:=513+e.lv) zO) rfl ?_
  refine WS_take 9 rfl rfl zK zK zK zK rfl rfl (ql (v:=zu (z:Int)) rfl z5 rfl (qh.own (b:=bw) zM (wh_bs (hok2 _) hz))) rfl ?_
  refine WS_take 10 rfl rfl zK zK zK zK rfl rfl (qQ rfl qcy zd) rfl ?_
  refine WS_take 11 rfl rfl zK zK zK zK rfl rfl (ql (v:=zi (e.slot:Int)) rfl ty3 rfl (qh.own (b:=b7) zM rfl)) rfl ?_
  refine Qp 14 rfl rfl zK zK zK rfl rfl (q8 rfl) rfl ?_
  refine Qp 15 rfl rfl zK zK zK rfl rfl (qQ rfl qdz zd) rfl ?_
  refine WS_one 12 zH rfl zK rfl rfl ?_
  refine qv qZ ty3 (.cons rfl rfl rfl rfl rfl .nil) rfl rfl rfl rfl rfl rfl rfl (fun b59=>?_)
  refine qs ?_
  refine WS_goal ?_
  refine WS_one 13 zH rfl zK rfl rfl ?_
  refine qB (zc2 rfl rfl) Tryz.call141 rfl (qal (l:=[(e.slot:Int)]) hz2 (show 1≤4611686018427387904 by decide) (Holds.own (b:=b59) zM)) ?_
  refine qs ?_
  refine WS_goal ?_
  refine WS_take 16 rfl rfl zK zK zK zK rfl rfl (qu (j:=e.lv) rfl rfl qgD z5 rfl hsp.1 (at_:=513+e.lv) zO) rfl ?_
  refine WS_last zH zK rfl rfl ?_
  refine qy (l':=Qg now (sl.set (e.lv*64+e.slot) (Value.slice (some ⟨b,0,none⟩) (Q9 (zZ L (e.lv*64+e.slot)) id).length cap)) (bs.set e.lv (QU z [(e.slot:Int)])) bm turn) rfl rfl z5 rfl rfl (b:=bw) zM (by rw [qgz (hok2 _),Nat.blt_eq]; omega) (qgy (hok2 _) hsp.1) zU ?_
  refine qs (WC_goal (WC_done (.nil _) zK (qav ?_)))
  refine zy [(b3,.cells 3 1 [zi id]),(bw,.cells 406 523 (Qg now (sl.set (e.lv*64+e.slot) (Value.slice (some ⟨b,0,none⟩) (Q9 (zZ L (e.lv*64+e.slot)) id).length cap)) (bs.set e.lv (QU z [(e.slot:Int)])) bm turn))] zk ?_
  refine zw [0,1,2] rfl rfl ?_
  refine qm 3 rfl zK zK zK rfl rfl (ql (v:=.map (some bm)) rfl Kb rfl (qh.own (b:=bw) zM (qb9 (hok3 _)))) rfl ?_
  refine qm 4 rfl zK zK zK rfl rfl (ql (v:=zi id) rfl ty3 rfl (qh.own (b:=b3) zM rfl)) rfl ?_
  refine qJ 5 zH zK rfl rfl ?_
  refine Jt (a:=id) (b:=bm) rfl rfl qkQ Kb hmap zU rfl ?_
  refine qs (WC_goal (WC_done zH zK (za 3 rfl ?_)))
  refine qj (H2:=(bw,.cells 406 523 (Qg now (sl.set (e.lv*64+e.slot) (Value.slice (some ⟨b,0,none⟩) (Q9 (zZ L (e.lv*64+e.slot)) id).length cap)) (bs.set e.lv (QU z [(e.slot:Int)])) bm turn))::(bm,.obj (qS (Value.int .i64) (JL l id) c))::((b,.cells 3 (cap*1) (((Q9 (zZ L (e.lv*64+e.slot)) id)).map (Value.int .i64)))::((XS.set (e.lv*64+e.slot) []).flatten++H))) Tryz.results357 rfl (.nil _) zH ?_
  exact ⟨b,cap,rfl,by omega,hmax,by rw [if_pos q0]⟩
 ·skip
  refine za 2 rfl ?_
  refine zy [(b3,.cells 3 1 [zi id]),(bw,.cells 406 523 (Qg now (sl.set (e.lv*64+e.slot) (Value.slice (some ⟨b,0,none⟩) (Q9 (zZ L (e.lv*64+e.slot)) id).length cap)) bs bm turn))] zk ?_
  refine zw [0,1,2] rfl rfl ?_
  refine qm 3 rfl zK zK zK rfl rfl (ql (v:=.map (some bm)) rfl Kb rfl (qh.own (b:=bw) zM (qb9 (hok2 _)))) rfl ?_
  refine qm 4 rfl zK zK zK rfl rfl (ql (v:=zi id) rfl ty3 rfl (qh.own (b:=b3) zM rfl)) rfl ?_
  refine qJ 5 zH zK rfl rfl ?_
  refine Jt (a:=id) (b:=bm) rfl rfl qkQ Kb hmap zU rfl ?_
  refine qs (WC_goal (WC_done zH zK (za 3 rfl ?_)))
  refine qj (H2:=(bw,.cells 406 523 (Qg now (sl.set (e.lv*64+e.slot) (Value.slice (some ⟨b,0,none⟩) (Q9 (zZ L (e.lv*64+e.slot)) id).length cap)) bs bm turn))::(bm,.obj (qS (Value.int .i64) (JL l id) c))::((b,.cells 3 (cap*1) (((Q9 (zZ L (e.lv*64+e.slot)) id)).map (Value.int .i64)))::((XS.set (e.lv*64+e.slot) []).flatten++H))) Tryz.results357 rfl (.nil _) zH ?_
  exact ⟨b,cap,rfl,by omega,hmax,by rw [if_neg q0]⟩
theorem qk.sub {P:Program} {f:FuncId} {args:Array Value} {R':Value→qe→Prop} (h:qk P w0 f args H R) (hr:∀ v H',R v H'→∃ H2,qr H' H2∧R' v H2):qk P w0 f args H R' :=
 fun w hs=>(h w hs).mono fun _ _ ⟨v,H',e,r,s⟩=>by
  obtain ⟨H2,h1,h2⟩:=hr _ _ r
  exact ⟨v,H2,e,h2,s.hsub h1⟩
theorem qjh (h:id ∉ L.map (·.id)):K7 L id=L:=by
 unfold K7
 rw [List.filter_eq_self]
 exact fun t ht=>decide_eq_true (fun e=>h (e ▸ List.mem_map_of_mem ht))
def qbe (L:List Tm) (id:Int):Bool:=L.any (fun t=>decide (t.id=id))
theorem qbZ:qbe L id=true↔id∈L.map (·.id):=by
 unfold qbe
 rw [List.any_eq_true,List.mem_map]
 exact ⟨fun ⟨t,h,e⟩=>⟨t,h,of_decide_eq_true e⟩,fun ⟨t,h,e⟩=>⟨t,h,decide_eq_true e⟩⟩
theorem del_L {HW:qe} (hW:ZA bw now L turn HW) :
  qk Tryz.prog w0 357 #[zp bw,zi id] (HW++H) (fun v H'=>∃ HW',ZA bw now (K7 L id) turn HW'∧v=.bool (qbe L id)∧H'=HW'++H):=by
 cases hW with
 | @mk bm c sl XS bs l h =>
  by_cases hin:id∈L.map (·.id)
  ·obtain ⟨t,ht,rfl⟩:=List.mem_map.1 hin
   obtain ⟨hv,hh⟩:=h.hit ht
   have hs:=h.spot t ht
   obtain ⟨v0,X,hsl,hX,hO⟩:=h.own (t.s.lv*64+t.s.slot) zO
   obtain ⟨z,hz,hz2,_⟩:=h.busy t.s.lv hs.1
   have hlen:=Nat.le_trans (qfR L (t.s.lv*64+t.s.slot)) h.len
   have hpos:0<(zZ L (t.s.lv*64+t.s.slot)).length:=List.length_pos_of_mem (qbX.2 ⟨t,ht,rfl,rfl⟩)
   have hcell:∀ (b cap:Nat),(Q9 (zZ L t.key) t.id).length≤cap→cap≤maxLen→zz 3 1 (.slice (some ⟨b,0,none⟩) (Q9 (zZ L t.key) t.id).length cap) (Q9 (zZ L t.key) t.id).length ((Q9 (zZ L t.key) t.id).map (Value.int .i64)) [(b,.cells 3 (cap*1) ((Q9 (zZ L t.key) t.id).map (Value.int .i64)))]:=fun b cap h1 h2=>.own (by rw [List.length_map,Nat.mul_one]) h1 h2
   refine qk.sub (qm0 (H:=H) h.row h.map hv hh hs hz hz2 hlen hpos hsl hX hO) ?_
   rintro v H' ⟨b,cap,rfl,hcap,hmax,rfl⟩
   refine ⟨_,?_,_,.mk (bm:=bm) (h.del ht (hcell b cap hcap hmax) hz rfl),by rw [qbZ.2 hin],rfl⟩
   exact .cons (.here _) (.cons (.here _) (qk7 (B:=[_]) (by rw [h.xs]; omega)))
  ·obtain ⟨hv,hh⟩:=h.miss hin
   refine (qje (H:=XS.flatten++H) h.row hv hh).mono ?_
   rintro v H' ⟨rfl,rfl⟩
   refine ⟨_,by rw [qjh hin]; exact .mk (bm:=bm) h,?_,rfl⟩
   cases hb:qbe L id with
   | false=>rfl
   | true=>exact absurd (qbZ.1 hb) hin
def Q8 (L:List Tm) (l:List Int):List Tm × Nat:=l.foldl (fun s id=>(K7 s.1 id,s.2+if qbe s.1 id=true then 1 else 0)) (L,0)
theorem qdG {x:Int} (h:l[i]?=some x):Q8 L (l.take (i+1))=(K7 (Q8 L (l.take i)).1 x,(Q8 L (l.take i)).2+if qbe (Q8 L (l.take i)).1 x=true then 1 else 0):=by
 unfold Q8
 rw [ZR h,List.foldl_append]; rfl
theorem qbo (L:List Tm) (l:List Int):∀ i,i≤l.length→(Q8 L (l.take i)).2≤i
 | 0,_=>by simp [Q8]
 | i+1,h=>by
  obtain ⟨x,hx⟩:∃ x,l[i]?=some x:=⟨_,List.getElem?_eq_getElem zO⟩
  have:=qbo L l i zO
  rw [qdG hx]
  dsimp only
  split <;> omega
theorem Del_L {HW:qe} (hW:ZA bw now L turn HW) (hn:l.length≤4611686018427387904) (hrow:Holds w0 H ad (l.map (Value.int .i64))) :qk Tryz.prog w0 264 #[zp bw,.slice ad l.length cap] (HW++H) (fun v H'=>∃ HW',ZA bw now (Q8 L l).1 turn HW'∧v=zi ((Q8 L l).2:Int)∧H'=HW'++H):=by
 refine qd (l:=[zp bw,.slice ad l.length cap]) Tryz.func264 rfl Tryz.ntmps264 rfl rfl ?_
 refine za 9 rfl (zY rfl qZ rfl rfl (za 3 rfl ?_))
 refine qV (X:=(Nat × qe)) [(0,_),(8,_),(9,_)] (fun (x:(Nat × qe))=>[(5,zi ((Q8 L (l.take x.1)).2:Int)),(10,zi (x.1:Int))]) (fun _=>_) (fun (x:(Nat × qe))=>x.2++H) (fun (x:(Nat × qe))=>x.1≤l.length∧ZA bw now (Q8 L (l.take x.1)).1 turn x.2) (fun (x:(Nat × qe))=>l.length-x.1) (0,HW) ⟨Nat.zero_le _,hW⟩ (qc rfl (qc rfl (qc rfl (qi _)))) (qc rfl (qc rfl (qi _))) rfl (.refl _) ?_
 rintro ⟨i,HWi⟩ ⟨hi,hWi⟩
 dsimp only at hi hWi ⊢
 simp only [List.cons_append,List.nil_append]
 refine za 4 rfl ?_
 refine qq (p:=(i:Int)<(l.length:Int)) rfl (by simp) (fun q0=>?_) (fun q0=>?_)
 ·skip
  refine za 4 rfl ?_
  obtain ⟨x,hx⟩:∃ x,l[i]?=some x:=⟨_,List.getElem?_eq_getElem zO⟩
  obtain ⟨q0,p0,rfl,hc⟩:=hrow.at (i:=i) (v:=.int .i64 x) (by rw [List.getElem?_map,hx]; rfl)
  have hat:=qdG (L:=L) hx
  have hle:=qbo L l i zO
  refine qN (j:=i) rfl rfl qZ ty3 rfl zO rfl rfl ?_
  refine qf (v:=zi x) rfl ty3 rfl (by rw [Nat.mul_one (i)]; exact hc.up zH) rfl ?_
  refine za 4 rfl ?_
  refine W_x (QD rfl rfl qcU) (fun _ h=>by cases h) rfl ?_
  refine za 6 rfl ?_
  refine qn (zc2 rfl rfl) Tryz.call357 rfl (del_L (id:=x) hWi) ?_
  rintro v H' ⟨HW',hW',rfl,rfl⟩
  rcases hb:qbe (Q8 L (l.take i)).1 x with _ | _
  ·skip
   have hn2:(Q8 L (l.take i)).2=(Q8 L (l.take (i+1))).2:=by rw [hat,hb]; rfl
   rw [hn2]
   refine za 6 rfl ?_
   refine qF rfl rfl (qM (m:=((i+1:Nat):Int)) (by rw [qW (by omega)]; omega)) rfl ?_
   refine za 2 rfl ?_
   refine qI (i+1,HW') ⟨by show i+1≤l.length; omega,by show ZA bw now (Q8 L (l.take (i+1))).1 turn HW'; rw [hat]; exact hW'⟩ (by show l.length-(i+1)<l.length-i; omega) (qc rfl (qc rfl (qc rfl (qc rfl (qc rfl (qi _)))))) rfl (.refl _)
  ·skip
   have hn2:(Q8 L (l.take i)).2+1=(Q8 L (l.take (i+1))).2:=by rw [hat,hb]; rfl
   refine za 5 rfl ?_
   refine qF rfl rfl (qM (m:=((Q8 L (l.take (i+1))).2:Int)) (by rw [qW (by omega)]; omega)) rfl ?_
   refine za 4 rfl ?_
   refine qF rfl rfl (qM (m:=((i+1:Nat):Int)) (by rw [qW (by omega)]; omega)) rfl ?_
   refine za 2 rfl ?_
   refine qI (i+1,HW') ⟨by show i+1≤l.length; omega,by show ZA bw now (Q8 L (l.take (i+1))).1 turn HW'; rw [hat]; exact hW'⟩ (by show l.length-(i+1)<l.length-i; omega) (qc rfl (qc rfl (qc rfl (qc rfl (qc rfl (qi _)))))) rfl (.refl _)
 ·skip
  refine za 5 rfl (qj Tryz.results264 rfl (.nil _) (.refl _) ?_)
  obtain rfl:i=l.length:=by omega
  rw [List.take_length] at hWi ⊢
  exact ⟨HWi,hWi,rfl,rfl⟩
open Go.Proofs
theorem zz.holds (h:zz e s (.slice ad n cap) n xs HB) (hs:∀ p∈HB,p∈H):Holds w0 H ad xs:=by
 generalize hv:Value.slice ad n cap=v at h
 cases h with
 | nil=>exact Holds.nil
 | own _ _ _ =>
  obtain ⟨rfl,_⟩:ad=_∧True:=by simp at hv; exact ⟨hv.1,trivial⟩
  exact Holds.own (hs _ List.mem_cons_self)
def ahead (a b:Tm):Prop:=a.s.due<b.s.due∨(a.s.due=b.s.due∧a.turn<b.turn)
open Go.Proofs
theorem qmD (h:zz e s v n xs HB):(v=.slice none 0 0∧n=0∧xs=[]∧HB=[])∨∃ b cap,v=.slice (some ⟨b,0,none⟩) n cap∧HB=[(b,.cells e (cap*s) xs)]∧n≤cap∧cap≤maxLen:=by
 cases h with
 | nil=>exact .inl ⟨rfl,rfl,rfl,rfl⟩
 | own h1 h2 h3=>exact .inr ⟨_,_,rfl,rfl,h2,h3⟩
def JD (l:List Int):List Int:=l.mergeSort fun x y=>decide (x≤y)
theorem JW (l:List Int):(JD l).Perm l:=List.mergeSort_perm _ _
theorem qbL (hn:l.Nodup):(JD l).Pairwise (· < ·):=by
 have h1:(JD l).Pairwise (fun x y=>decide (x≤y)=true):=List.pairwise_mergeSort (fun a b c h1 h2=>by simp only [decide_eq_true_eq] at *; omega) (fun a b=>by simp only [Bool.or_eq_true,decide_eq_true_eq]; omega) l
 have h2:(JD l).Nodup:=(JW l).nodup_iff.2 hn
 have h3:=List.pairwise_and_iff.2 ⟨h1,h2⟩
 refine h3.imp ?_
 rintro a b ⟨h4,h5⟩
 have:=of_decide_eq_true h4
 have h6:a≠b:=h5
 omega
open Go.Proofs in
theorem qkf {b tot:Nat} {d:List Int} (hd:d.length<4611686018427387904) :
  qk Tryz.prog w0 174 #[.slice (some ⟨b,0,none⟩) d.length cap] ((b,.cells 3 tot (d.map (Value.int .i64)))::H) (fun v H'=>v=.tuple #[]∧H'=(b,.cells 3 tot ((JD d).map (Value.int .i64)))::H):=fun w hs=>by
 have hlt:b<w.heap.size:=(hs.own _ List.mem_cons_self).2.lt
 have hc:=Tryz.slices_Sort_int b 0 cap d w (qbY (d:=d) (enc:=(Value.int .i64)) hs) hlt hd
 refine (callsIn_wide.2 hc).mono ?_
 rintro en w' ⟨rfl,n,os,rfl⟩
 refine ⟨_,_,rfl,⟨rfl,rfl⟩,?_⟩
 have hS:Sat w0 ((b,.cells 3 tot (((JD d).toArray).toList.map (Value.int .i64)))::H) (sortWorld (Value.int .i64) w b 0 n (JD d).toArray os):=Yr hs (by simp [(JW d).length_eq])
 exact hS
theorem qe9:∀ {a b:List Int},a.Perm b→a.Pairwise (· < ·)→b.Pairwise (· < ·)→a=b
 | [],b,hp,_,_=>(List.Perm.nil_eq hp)
 | x::a,b,hp,ha,hb=>by
  cases b with
  | nil=>exact absurd hp.length_eq (by simp)
  | cons y b =>
   have ha':=List.pairwise_cons.1 ha
   have hb':=List.pairwise_cons.1 hb
   have hxy:x=y:=by
    rcases List.mem_cons.1 (hp.mem_iff.1 List.mem_cons_self) with h | h
    ·exact h
    ·rcases List.mem_cons.1 (hp.mem_iff.2 List.mem_cons_self) with h' | h'
     ·exact h'.symm
     ·have:=hb'.1 x h; have:=ha'.1 y h'; omega
   subst hxy
   rw [qe9 (List.Perm.cons_inv hp) ha'.2 hb'.2]
instance:DecidableEq Tm:=fun a b=>by
 cases a; cases b
 rename_i i s t i2 s2 t2
 exact if h:i=i2∧s=s2∧t=t2 then isTrue (by obtain ⟨rfl,rfl,rfl⟩:=h; rfl) else isFalse (fun e=>h (by cases e; exact ⟨rfl,rfl,rfl⟩))
instance (a b:Tm):Decidable (ahead a b):=inferInstanceAs (Decidable (_∨_))
theorem qms {r:List Int} {a1 a2:Option Addr} {c1 c2:Nat} (hl:Holds w0 H a1 (l.map (Value.int .i64))) (hr:Holds w0 H a2 (r.map (Value.int .i64))) (hn:l.length≤4611686018427387904) :qG Tryz.prog w0 H 46 [.slice a1 l.length c1,.slice a2 r.length c2] (.bool (decide (l=r))):=by
 refine qd Tryz.func46 rfl Tryz.ntmps46 rfl rfl (za 6 rfl (zY rfl qZ rfl rfl (qH rfl rfl (zY rfl qZ rfl rfl (za 2 rfl ?_)))))
 refine qq (p:=(l.length:Int)≠(r.length:Int)) rfl (by simp) (fun q0=>?_) (fun q0=>?_)
 ·skip
  refine za 3 rfl ?_
  refine qj (H2:=H) Tryz.results46 rfl (.nil _) zH ?_
  exact ⟨by rw [decide_eq_false (fun e=>q0 (by rw [e]))],rfl⟩
 ·skip
  refine za 6 rfl ?_
  have hlen:l.length=r.length:=by omega
  refine qV (X:=Nat) [(0,_),(1,_)] (fun (i:Nat)=>[(5,zi (i:Int))]) (fun _=>_) (fun (i:Nat)=>H) (fun (i:Nat)=>i≤l.length∧l.take i=r.take i) (fun (i:Nat)=>l.length-i) 0 ⟨Nat.zero_le _,rfl⟩ (qc rfl (qc rfl (qi _))) (qc rfl (qi _)) rfl zH ?_
  rintro i ⟨hi,heq⟩
  simp only [List.cons_append,List.nil_append]
  refine za 4 rfl (zY rfl qZ rfl rfl (za 2 rfl ?_))
  refine qq (p:=(i:Int)<(l.length:Int)) rfl (by simp) (fun q1=>?_) (fun q1=>?_)
  ·skip
   refine za 3 rfl (zB zk zK ?_)
   obtain ⟨x,hx⟩:∃ x,l[i]?=some x:=⟨_,List.getElem?_eq_getElem zO⟩
   obtain ⟨q0,p0,rfl,hc⟩:=hl.at (i:=i) (v:=.int .i64 x) (by rw [List.getElem?_map,hx]; rfl)
   obtain ⟨y,hy⟩:∃ y,r[i]?=some y:=⟨_,List.getElem?_eq_getElem zO⟩
   obtain ⟨q1,p1,rfl,hc'⟩:=hr.at (i:=i) (v:=.int .i64 y) (by rw [List.getElem?_map,hy]; rfl)
   refine zq 2 rfl ?_
   refine qC (qU (j:=i) rfl rfl qZ ty3 rfl zO rfl) rfl ?_
   refine qC (ql (v:=zi x) rfl ty3 rfl (by rw [Nat.mul_one]; exact hc.up zH)) rfl ?_
   refine zq 2 rfl ?_
   refine qC (qU (j:=i) rfl rfl qZ ty3 rfl zO rfl) rfl ?_
   refine qC (ql (v:=zi y) rfl ty3 rfl (by rw [Nat.mul_one]; exact hc'.up zH)) rfl ?_
   refine zq 1 rfl (z4 ?_)
   refine qq (p:=¬ x=y) rfl (by simp) (fun q2=>?_) (fun q2=>?_)
   ·skip
    refine za 3 rfl ?_
    refine qj (H2:=H) Tryz.results46 rfl (.nil _) zH ?_
    exact ⟨by rw [decide_eq_false (fun e=>q2 (by rw [e,hy] at hx; exact (Option.some.inj hx).symm))],rfl⟩
   ·skip
    refine za 4 rfl ?_
    refine qF rfl rfl (qM (m:=((i+1:Nat):Int)) ((qW zO).trans zO)) rfl ?_
    refine za 2 rfl ?_
    refine qI (i+1) ⟨by omega,by rw [ZR hx,ZR hy,heq,Classical.not_not.1 q2]⟩ (by omega) (qc rfl (qc rfl (qc rfl (qi _)))) rfl zH
  ·skip
   refine za 4 rfl ?_
   refine qj (H2:=H) Tryz.results46 rfl (.nil _) zH ?_
   obtain rfl:i=l.length:=by omega
   exact ⟨by rw [decide_eq_true (by rwa [List.take_length,hlen,List.take_length] at heq)],rfl⟩
structure Wl where
 bw:Nat
 now:Nat
 L:List Tm
 turn:Nat
variable {Ws:List Wl} {w:Wl}
abbrev Wl.p (w:Wl):Value:=.pointer (some ⟨w.bw,0,none⟩)
inductive QJ (bb:Nat) (Ws:List Wl):qe→Prop
 | mk {v:Value} {XS:qe} {HWs:List qe} (hv:zz 276 1 v Ws.length (Ws.map Wl.p) XS) (hl:HWs.length=Ws.length) (hw:∀ (k:Nat) w HW,Ws[k]?=some w→HWs[k]?=some HW→ZA w.bw w.now w.L w.turn HW):QJ bb Ws ((bb,.cells 275 1 [v])::(XS++HWs.flatten))
theorem Jj {α:Type} {l:List α} {x:α} (h:l[k]?=some x):l.set k x=l:=by
 apply List.ext_getElem?
 intro i
 by_cases e:k=i
 ·subst e; rw [List.getElem?_set_self (List.getElem?_eq_some_iff.1 h).1,h]
 ·rw [List.getElem?_set_ne e]
theorem QJ.at (h:QJ bb Ws HB) (hk:Ws[k]?=some w):∃ HW HR,ZA w.bw w.now w.L w.turn HW∧(∀ H,qr (HB++H) (HW++(HR++H))) ∧
  ∀ w' HW',w'.bw=w.bw→ZA w'.bw w'.now w'.L w'.turn HW'→∃ HB',QJ bb (Ws.set k w') HB'∧∀ H,qr (HW'++(HR++H)) (HB'++H):=by
 cases h with
 | @mk v XS HWs hv hl hw =>
  have hkl:=(List.getElem?_eq_some_iff.1 hk).1
  obtain ⟨HW,hHW⟩:∃ HW,HWs[k]?=some HW:=⟨_,List.getElem?_eq_getElem zO⟩
  refine ⟨HW,(bb,.cells 275 1 [v])::(XS++(HWs.set k []).flatten),hw k w HW hk hHW,fun H=>?_,fun w' HW' e hw'=>?_⟩
  ·have h1:=((flat_take hHW).append_left ((bb,.cells 275 1 [v])::XS)).append_right H
   refine qr.of_perm ?_
   rw [List.append_assoc,List.append_assoc] at h1
   show (((bb,Blk.cells 275 1 [v])::XS)++HWs.flatten++H).Perm _
   rw [List.append_assoc]
   refine h1.trans ?_
   rw [List.append_assoc]
   refine (List.perm_append_comm_assoc _ _ _).trans ?_
   show (HW++(((bb,Blk.cells 275 1 [v])::XS)++_)).Perm (HW++((((bb,Blk.cells 275 1 [v])::XS)++_)++H))
   rw [List.append_assoc]
  ·refine ⟨(bb,.cells 275 1 [v])::(XS++(HWs.set k HW').flatten),.mk ?_ (by rw [List.length_set,List.length_set,hl]) ?_,fun H=>?_⟩
   ·rw [List.length_set,List.map_set,Jj (by rw [List.getElem?_map,hk,show w'.p=w.p from by unfold Wl.p; rw [e]]; rfl)]; exact hv
   ·intro j u HU hj hU
    by_cases c:k=j
    ·subst c
     rw [List.getElem?_set_self hkl] at hj
     rw [List.getElem?_set_self (by omega)] at hU
     obtain rfl:=Option.some.inj hj
     obtain rfl:=Option.some.inj hU
     exact hw'
    ·rw [List.getElem?_set_ne c] at hj hU
     exact hw j u HU hj hU
   ·have h1:=((qbk (B:=HW') (XS:=HWs) (k:=k) zO).append_left ((bb,.cells 275 1 [v])::XS)).append_right H
    refine qr.of_perm (List.Perm.trans ?_ h1)
    show (HW'++((((bb,Blk.cells 275 1 [v])::XS)++_)++H)).Perm _
    rw [List.append_assoc,List.append_assoc,List.append_assoc]
    exact List.perm_append_comm_assoc _ _ _
theorem QJ.row (h:QJ bb Ws HB):∃ ad cap,(bb,Blk.cells 275 1 [.slice ad Ws.length cap])∈HB∧Ws.length≤cap∧∀ {w0:World} {H:qe},(∀ p∈HB,p∈H)→Holds w0 H ad (Ws.map Wl.p):=by
 cases h with
 | @mk v XS HWs hv hl hw =>
  obtain ⟨ad,cap,rfl,h1,_⟩:=hv.shape
  exact ⟨ad,cap,List.mem_cons_self,h1,fun hm=>zz.holds hv (fun p hp=>hm p (List.mem_cons_of_mem _ (List.mem_append_left _ hp)))⟩
theorem qnv (hB:QJ bb Ws HB) (hm:∀ p∈HB,p∈H) :qG Tryz.prog w0 H 88 [zp bb] (zi (Ws.length:Int)):=by
 obtain ⟨ad,cap,hcell,hlc,hrow0⟩:=hB.row
 have hrow:Holds w0 H ad (Ws.map Wl.p):=hrow0 hm
 refine qd Tryz.func88 rfl Tryz.ntmps88 rfl rfl (za 6 rfl ?_)
 refine W_x (qE rfl rfl qcV) (fun _ h=>by cases h) rfl ?_
 refine za 7 rfl ?_
 refine qf (v:=.slice ad Ws.length cap) rfl Kd rfl (qh.own (b:=bb) (hm _ hcell) rfl) rfl ?_
 refine zY rfl Kd rfl rfl (za 2 rfl ?_)
 refine qj (H2:=H) Tryz.results88 rfl (.nil _) zH ?_
 exact ⟨rfl,rfl⟩
structure NbS where
 i:Nat
 Ws:List Wl
 v:Value
 XS:qe
 HWs:List qe
def XY (now:Nat) (w:Wl):Prop:=w.now=now∧w.L=[]∧w.turn=0
theorem qjJ {HWs:List qe} {u:Wl} {HU:qe} (hl:HWs.length=Ws.length) (hw:∀ (k:Nat) w HW,Ws[k]?=some w→HWs[k]?=some HW→ZA w.bw w.now w.L w.turn HW) (hu:ZA u.bw u.now u.L u.turn HU):∀ (k:Nat) w HW,(Ws++[u])[k]?=some w→(HWs++[HU])[k]?=some HW→ZA w.bw w.now w.L w.turn HW:=fun k w HW h1 h2=>by
 by_cases c:k<Ws.length
 ·rw [List.getElem?_append_left c] at h1
  rw [List.getElem?_append_left (by omega)] at h2
  exact hw k w HW h1 h2
 ·rw [List.getElem?_append_right (by omega)] at h1 h2
  rw [hl] at h2
  cases hk:k-Ws.length with
  | zero =>
   rw [hk] at h1 h2
   obtain rfl:u=w:=by simpa using h1
   obtain rfl:HU=HW:=by simpa using h2
   exact hu
  | succ j=>rw [hk] at h1; simp at h1
theorem qnm (hn:1≤n∧n≤64) :qk Tryz.prog w0 196 #[zi (n:Int),zu ((now:Nat):Int)] (H) (fun v H'=>∃ bb Ws HB,v=.tuple #[zp bb,zi 0]∧QJ bb Ws HB∧Ws.length=n∧(∀ w∈Ws,XY now w)∧H'=HB++H):=by
 refine qd (l:=[zi (n:Int),zu ((now:Nat):Int)]) Tryz.func196 rfl Tryz.ntmps196 rfl rfl ?_
 refine za 8 rfl ?_
 rw [decide_eq_false (by omega)]
 refine za 5 rfl ?_
 rw [decide_eq_false (by omega)]
 refine za 5 rfl ?_
 refine zb (l:=[.slice none 0 0]) ty275 pl275 .nil rfl rfl rfl ?_
 refine qR (l:=[.slice none 0 0]) rfl rfl rfl (fun b14=>?_)
 refine za 8 rfl ?_
 refine qV (X:=NbS) [(1,_),(6,_),(15,_)] (fun (x:NbS)=>[(16,zi (x.i:Int))]) (fun _=>_) (fun (x:NbS)=>(b14,.cells 275 1 [x.v])::(x.XS++(x.HWs.flatten++H))) (fun (x:NbS)=>x.i≤n∧x.Ws.length=x.i∧zz 276 1 x.v x.Ws.length (x.Ws.map Wl.p) x.XS∧x.HWs.length=x.Ws.length∧(∀ (k:Nat) w HW,x.Ws[k]?=some w→x.HWs[k]?=some HW→ZA w.bw w.now w.L w.turn HW)∧∀ w∈x.Ws,XY now w) (fun (x:NbS)=>n-x.i) ⟨0,[],.slice none 0 0,[],[]⟩ ⟨Nat.zero_le _,rfl,.nil,rfl,fun k w HW h=>(by cases h),fun w h=>(by cases h)⟩ (qc rfl (qc rfl (qc rfl (qi _)))) (qc rfl (qi _)) rfl (.refl _) ?_
 rintro ⟨i,Ws,v,XS,HWs⟩ ⟨hi,hlen,hv,hl,hw,hf⟩
 dsimp only at hi hlen hv hl hw hf ⊢
 simp only [List.cons_append,List.nil_append]
 refine za 4 rfl ?_
 refine qq (p:=(i:Int)<(n:Int)) rfl (by simp) (fun q0=>?_) (fun q0=>?_)
 ·skip
  refine za 3 rfl ?_
  refine W_anyS [(b14,.cells 275 1 [v])] 11 zk ?_
  refine WS_take 0 rfl rfl zK zK zK zK rfl rfl (ze rfl) rfl ?_
  refine WS_take 1 rfl rfl zK zK zK zK rfl rfl (ze rfl) rfl ?_
  refine WS_take 2 rfl rfl zK zK zK zK rfl rfl (q8 rfl) rfl ?_
  refine WS_take 3 rfl rfl zK zK zK zK rfl rfl (qQ rfl qbj zd) rfl ?_
  refine WS_take 4 rfl rfl zK zK zK zK rfl rfl (ql (v:=v) rfl Kd rfl (qh.own (b:=b14) zM rfl)) rfl ?_
  refine WS_take 5 rfl rfl zK zK zK zK rfl rfl (ze rfl) rfl ?_
  refine WS_one 6 zH rfl zK rfl rfl ?_
  refine qn (zc1 rfl) Tryz.call275 rfl (New_W (now:=now)) ?_
  rintro w2 H' ⟨bw,HW,rfl,hW,rfl⟩
  refine qs ?_
  refine WS_goal ?_
  refine WS_one 7 zH rfl zK rfl rfl ?_
  refine qv (l:=[zp bw]) Kd qcU (.cons rfl rfl rfl rfl rfl .nil) rfl rfl rfl rfl rfl rfl rfl (fun b25=>?_)
  refine qs ?_
  refine WS_goal ?_
  refine WS_one 8 zH rfl zK rfl rfl ?_
  refine QF (news:=[zp bw]) (m:=1) (HB:=XS) (H0:=(b25,.cells 276 1 [zp bw])::(HW++((b14,.cells 275 1 [v])::(HWs.flatten++H)))) rfl rfl Kd qcU rfl (by decide) hv rfl (Holds.own (b:=b25) zM) rfl (by simp only [maxLen]; omega) (by omega) zH rfl (fun v' X' hv'=>?_)
  refine qs ?_
  refine WS_goal ?_
  refine Qp 9 rfl rfl zK zK zK rfl rfl (q8 rfl) rfl ?_
  refine WS_take 10 rfl rfl zK zK zK zK rfl rfl (qQ rfl qbj zd) rfl ?_
  refine WS_last zH zK rfl rfl ?_
  have hv1:v'.oneCell'=true:=by obtain ⟨_,_,rfl,_⟩:=hv'.shape; rfl
  refine qy (l':=[v']) rfl rfl Kd hv1 rfl (b:=b14) zM rfl rfl zU ?_
  refine qs (WC_goal (WC_done (.nil _) zK (za 2 rfl ?_)))
  refine qF rfl rfl (qM (m:=((i+1:Nat):Int)) ((qW zO).trans zO)) rfl ?_
  refine za 2 rfl ?_
  refine qI ⟨i+1,Ws++[⟨bw,now,[],0⟩],v',X',HWs++[HW]⟩ ⟨by show i+1≤n; omega,by show (Ws++[_]).length=i+1; rw [List.length_append,hlen]; rfl,by show zz 276 1 v' (Ws++[_]).length ((Ws++[_]).map Wl.p) X'; rw [List.length_append,List.map_append]; exact hv',by show (HWs++[HW]).length=(Ws++[_]).length; rw [List.length_append,List.length_append,hl]; rfl,qjJ hl hw hW,fun w h=>(List.mem_append.1 h).elim (hf w) (fun h=>by rw [List.mem_singleton.1 h]; exact ⟨rfl,rfl,rfl⟩)⟩ (by show n-(i+1)<n-i; omega) (qc rfl (qc rfl (qc rfl (qc rfl (qi _))))) rfl (by show qr _ ((b14,.cells 275 1 [v'])::(X'++((HWs++[HW]).flatten++H))); rw [List.flatten_append,List.flatten_singleton,List.append_assoc]; first | exact ZW | (repeat (first | with_reducible exact qr.refl _ | refine qr.cons zT ?_ | refine qr.app zS ?_ | exact qr.nil _ | exact qr.refl _ | refine qr.drop ?_ | refine qr.dropS ?_)))
 ·skip
  refine za 6 rfl ?_
  refine qP (H2:=(b14,.cells 275 1 [v])::(XS++(HWs.flatten++H))) Tryz.results196 rfl rfl (.nil _) zH ?_
  exact ⟨b14,Ws,(b14,.cells 275 1 [v])::(XS++HWs.flatten),rfl,.mk hv hl hw,by omega,hf,by show _=_::((XS++HWs.flatten)++H); rw [List.append_assoc]⟩
theorem qmq {b:Value} (hb:b.cells.toList=[b]) (hf:f.cells.toList=[f]):qk Tryz.prog w0 188 #[b,f] (H) (fun v H'=>∃ b2 b3,v=.func (.func 271) #[] #[zp b2,zp b3]∧H'=(b3,.cells 285 1 [f])::(b2,.cells 167 1 [b])::H):=by
 refine qd (l:=[b,f]) Tryz.func188 rfl Tryz.ntmps188 rfl rfl ?_
 refine zo ?_
 refine qR (l:=[b]) rfl hb rfl (fun b2=>?_)
 refine qR (l:=[f]) rfl hf rfl (fun b3=>?_)
 refine za 3 rfl (qL .nil (.cons rfl (.cons rfl .nil)) rfl (za 2 rfl (qj Tryz.results188 rfl (.nil _) (.refl _) ?_)))
 exact ⟨b2,b3,rfl,rfl⟩
theorem qfp {HB0:qe} {lp:Nat} {Ws0:List Wl} (J:Nat→List Wl→qe→Prop) (S:List Wl→qe→Prop) (sel:Nat→Wl→Bool) (hfi:∀ (args:Array Value) (w:World),(callFunc fi args).run Tryz.prog w=.ok (.enter fi args) w)
  (hn64:n≤64) (hlen:∀ k Ws Hr,J k Ws Hr→Ws.length=n)
  (hcl:∀ k Ws HB Hr w,k<n→Ws[k]?=some w→QJ bb Ws HB→J k Ws Hr→qG Tryz.prog w0 ((b2,.cells 167 1 [zp bb])::(b3,.cells 285 1 [(Value.func (.func fi) #[] ca.toArray)])::(HB++Hr)) fi ([zi (k:Int),w.p]++ca) (.bool (sel k w)))
  (hskip:∀ k Ws Hr w,k<n→Ws[k]?=some w→J k Ws Hr→sel k w=false→J (k+1) Ws Hr)
  (hround:∀ k Ws HB Hr w,k<n→Ws[k]?=some w→QJ bb Ws HB→J k Ws Hr→sel k w=true→Zp Tryz.prog w0 lp #[zi (k:Int),w.p] ((b2,.cells 167 1 [zp bb])::(b3,.cells 285 1 [(Value.func (.func fi) #[] ca.toArray)])::(HB++Hr)) (fun v H'=>∃ Ws' HB' Hr',QJ bb Ws' HB'∧qr H' ((b2,.cells 167 1 [zp bb])::(b3,.cells 285 1 [(Value.func (.func fi) #[] ca.toArray)])::(HB'++Hr'))∧((v=.bool true∧J (k+1) Ws' Hr')∨(v=.bool false∧S Ws' Hr'))))
  (hB0:QJ bb Ws0 HB0) (hJ0:J 0 Ws0 H) :
  qk Tryz.prog w0 271 #[.func (.yield lp) #[] #[],zp b2,zp b3] ((b2,.cells 167 1 [zp bb])::(b3,.cells 285 1 [(Value.func (.func fi) #[] ca.toArray)])::(HB0++H)) (fun _ H'=>∃ Ws' HB' Hr',QJ bb Ws' HB'∧qr H' ((b2,.cells 167 1 [zp bb])::(b3,.cells 285 1 [(Value.func (.func fi) #[] ca.toArray)])::(HB'++Hr'))∧(J n Ws' Hr'∨S Ws' Hr')):=by
 refine qd (l:=[.func (.yield lp) #[] #[],zp b2,zp b3]) Tryz.func271 rfl Tryz.ntmps271 rfl rfl ?_
 refine zo ?_
 refine qf (v:=zp bb) rfl qcV rfl (qh.own (b:=b2) zM rfl) rfl ?_
 have hm0:∀ p∈HB0,p∈(b2,.cells 167 1 [zp bb])::(b3,.cells 285 1 [(Value.func (.func fi) #[] ca.toArray)])::(HB0++H):=fun p hp=>List.mem_cons_of_mem _ (List.mem_cons_of_mem _ (List.mem_append_left _ hp))
 have hcq:=qnv (w0:=w0) (bb:=bb) (Ws:=Ws0) hB0 hm0
 rw [hlen 0 Ws0 H hJ0] at hcq
 refine qB (zc1 rfl) Tryz.call88 rfl hcq (za 3 rfl ?_)
 refine qV (X:=(Nat × List Wl × qe × qe)) [(0,_),(1,_),(2,_),(7,_)] (fun (x:(Nat × List Wl × qe × qe))=>[(8,zi (x.1:Int))]) (fun _=>_) (fun (x:(Nat × List Wl × qe × qe))=>(b2,.cells 167 1 [zp bb])::(b3,.cells 285 1 [(Value.func (.func fi) #[] ca.toArray)])::(x.2.2.1++x.2.2.2)) (fun (x:(Nat × List Wl × qe × qe))=>x.1≤n∧QJ bb x.2.1 x.2.2.1∧J x.1 x.2.1 x.2.2.2) (fun (x:(Nat × List Wl × qe × qe))=>n-x.1) (0,Ws0,HB0,H) ⟨Nat.zero_le _,hB0,hJ0⟩ (qc rfl (qc rfl (qc rfl (qc rfl (qi _))))) (qc rfl (qi _)) rfl (.refl _) ?_
 rintro ⟨k,Ws,HB,Hr⟩ ⟨hk,hB,hJk⟩
 dsimp only at hk hB hJk ⊢
 simp only [List.cons_append,List.nil_append]
 refine za 4 rfl ?_
 refine qq (p:=(k:Int)<(n:Int)) rfl (by simp) (fun q0=>?_) (fun q0=>?_)
 ·skip
  refine za 8 rfl ?_
  obtain ⟨w,hw⟩:∃ w,Ws[k]?=some w:=⟨_,List.getElem?_eq_getElem (by rw [hlen k Ws Hr hJk]; omega)⟩
  have hkn:k<n:=by omega
  obtain ⟨ad,cap,hcell,hlc,hrow0⟩:=hB.row
  have hmem:∀ p∈HB,p∈(b2,.cells 167 1 [zp bb])::(b3,.cells 285 1 [(Value.func (.func fi) #[] ca.toArray)])::(HB++Hr):=fun p hp=>List.mem_cons_of_mem _ (List.mem_cons_of_mem _ (List.mem_append_left _ hp))
  obtain ⟨qb,qo,rfl,hc⟩:=(hrow0 (w0:=w0) hmem).at (i:=k) (v:=w.p) (by rw [List.getElem?_map,hw]; rfl)
  refine qf (v:=zp bb) rfl qcV rfl (qh.own (b:=b2) zM rfl) rfl ?_
  refine za 2 rfl ?_
  refine qf (v:=.slice (some ⟨qb,qo,none⟩) Ws.length cap) rfl Kd rfl (qh.own (b:=bb) (hmem _ hcell) rfl) rfl ?_
  refine qH rfl rfl ?_
  refine qN (j:=k) rfl rfl Kd qcU rfl (by rw [hlen k Ws Hr hJk]; omega) rfl rfl ?_
  refine qf (v:=w.p) rfl qcU rfl (by rw [Nat.mul_one]; exact hc) rfl ?_
  refine za 3 rfl ?_
  refine qf (v:=(Value.func (.func fi) #[] ca.toArray)) rfl ty285 rfl (qh.own (b:=b3) zM rfl) rfl ?_
  refine za 2 rfl ?_
  refine YI (fa:=[]) (ca:=ca) rfl (.cons rfl (.cons rfl .nil)) rfl hfi rfl (hcl k Ws HB Hr w hkn hw hB hJk) ?_
  rcases hs:sel k w with _ | _
  ·skip
   refine za 12 rfl ?_
   refine qF rfl rfl (qM (m:=((k+1:Nat):Int)) ((qW zO).trans zO)) rfl ?_
   refine za 2 rfl ?_
   refine qI (k+1,Ws,HB,Hr) ⟨by show k+1≤n; omega,hB,hskip k Ws Hr w hkn hw hJk hs⟩ (by show n-(k+1)<n-k; omega) (qc rfl (qc rfl (qc rfl (qc rfl (qc rfl (qi _)))))) rfl (.refl _)
  ·skip
   refine za 8 rfl (JP rfl (.cons rfl (.cons rfl .nil)) rfl (hround k Ws HB Hr w hkn hw hB hJk hs) ?_)
   rintro v H' ⟨Ws',HB',Hr',hB',hsub,⟨rfl,hJ'⟩ | ⟨rfl,hS'⟩⟩
   ·skip
    refine qT hsub ?_
    refine za 8 rfl ?_
    refine qF rfl rfl (qM (m:=((k+1:Nat):Int)) ((qW zO).trans zO)) rfl ?_
    refine za 2 rfl ?_
    refine qI (k+1,Ws',HB',Hr') ⟨by show k+1≤n; omega,hB',hJ'⟩ (by show n-(k+1)<n-k; omega) (qc rfl (qc rfl (qc rfl (qc rfl (qc rfl (qi _)))))) rfl (.refl _)
   ·skip
    refine qT hsub ?_
    refine za 5 rfl (JQ Tryz.results271 (.nil _) (.refl _) ?_)
    exact ⟨Ws',HB',Hr',hB',.refl _,.inr hS'⟩
 ·skip
  refine J7 rfl (Zf Tryz.results271 (.nil _) (.refl _) ?_)
  obtain rfl:k=n:=by omega
  exact ⟨Ws,HB,Hr,hB,.refl _,.inl hJk⟩
theorem qf5 {x y:Value}:Zu Tryz.prog (fun _=>True) 263 [x,y] (.bool true):=by
 intro w0 H hT
 refine qd Tryz.func263 rfl Tryz.ntmps263 rfl rfl (za 6 rfl ?_)
 refine qj (H2:=H) Tryz.results263 rfl (.nil _) zH ?_
 exact ⟨rfl,rfl⟩
def XP (l:List Int) (w:Wl):Wl:=⟨w.bw,w.now,(Q8 w.L l).1,w.turn⟩
def qay (Ws:List Wl) (l:List Int) (k:Nat):List Wl:=(Ws.take k).map (XP l)++Ws.drop k
theorem qjj (Ws:List Wl) (l:List Int) (k:Nat):(qay Ws l k).length=Ws.length:=by
 unfold qay
 rw [List.length_append,List.length_map,List.length_take,List.length_drop]; omega
theorem qlj (h:Ws[k]?=some w):(qay Ws l k)[k]?=some w:=by
 have hk:=(List.getElem?_eq_some_iff.1 h).1
 unfold qay
 rw [List.getElem?_append_right (by rw [List.length_map,List.length_take]; omega),List.length_map,List.length_take,Nat.min_eq_left (by omega),Nat.sub_self,List.getElem?_drop,Nat.add_zero,h]
theorem qji (h:Ws[k]?=some w):(qay Ws l k).set k (XP l w)=qay Ws l (k+1):=by
 have hk:=(List.getElem?_eq_some_iff.1 h).1
 have e:Ws.drop k=w::Ws.drop (k+1):=by
  rw [List.drop_eq_getElem_cons hk,(List.getElem?_eq_some_iff.1 h).2]
 unfold qay
 rw [ZR h,List.map_append,e,List.set_append_right _ _ (by rw [List.length_map,List.length_take]; omega),List.length_map,List.length_take,Nat.min_eq_left (by omega),Nat.sub_self]
 simp
theorem qjk (Ws:List Wl) (l:List Int):qay Ws l Ws.length=Ws.map (XP l):=by
 unfold qay
 rw [List.take_length,List.drop_length,List.append_nil]
def JA (Ws:List Wl) (l:List Int):Nat→Nat
 | 0=>0
 | k+1=>JA Ws l k+match Ws[k]? with
  | some w=>(Q8 w.L l).2
  | none=>0
theorem qlm (h:Ws[k]?=some w):JA Ws l (k+1)=JA Ws l k+(Q8 w.L l).2:=by
 show JA Ws l k+(match Ws[k]? with | some w=>(Q8 w.L l).2 | none=>0)=_
 rw [h]
theorem qb4 (L:List Tm) (l:List Int):(Q8 L l).2≤l.length:=by
 have:=qbo L l l.length (Nat.le_refl _)
 rwa [List.take_length] at this
theorem qcI (Ws:List Wl) (l:List Int):∀ k,JA Ws l k≤k*l.length
 | 0=>Nat.zero_le _
 | k+1=>by
  have ih:=qcI Ws l k
  rw [Nat.add_mul]
  show JA Ws l k+(match Ws[k]? with | some w=>(Q8 w.L l).2 | none=>0)≤_
  refine Nat.add_le_add ih ?_
  cases hk:Ws[k]? with
  | none=>exact Nat.zero_le _
  | some w=>exact Nat.le_trans (qb4 w.L l) (Nat.le_of_eq (Nat.one_mul _).symm)
theorem qeK (hB:QJ bb Ws HB) (hn64:Ws.length≤64) (hl:l.length≤4611686018427387904) (hl2:l.length≤1000000) (hrow:Holds w0 H ad (l.map (Value.int .i64))) :qk Tryz.prog w0 178 #[zp bb,.slice ad l.length cap] (HB++H) (fun v H'=>∃ HB',QJ bb (Ws.map (XP l)) HB'∧v=zi (JA Ws l Ws.length:Nat)∧H'=HB'++H):=by
 refine qd (l:=[zp bb,.slice ad l.length cap]) Tryz.func178 rfl Tryz.ntmps178 rfl rfl ?_
 refine zo ?_
 refine qR (l:=[.slice ad l.length cap]) rfl rfl rfl (fun b3=>?_)
 refine za 3 rfl ?_
 refine qA (l:=[zi 0]) ty3 rfl rfl (fun b5=>?_)
 refine qy (l':=[zi 0]) rfl rfl ty3 rfl rfl (b:=b5) zM rfl rfl zU ?_
 refine za 4 rfl ?_
 refine qn (zc2 rfl rfl) Tryz.call188 rfl (qmq (b:=zp bb) (f:=(Value.func (.func 263) #[] #[])) rfl rfl) ?_
 rintro v H' ⟨b2_,b3_,rfl,rfl⟩
 refine za 2 rfl (QE rfl Tryz.call271 ?_)
 intro lp D r hst hpd hps hasg hbody hA
 have hr:=QV hst hpd
 show qk _ _ _ #[_,_,_] _ _
 refine ((qfp (b2:=b2_) (b3:=b3_) (bb:=bb) (n:=Ws.length) (fi:=263) (ca:=[]) (Ws0:=Ws) (HB0:=HB) (H:=(lp,.obj (.loop r))::(D,.obj (.deferred (some [])))::(b5,.cells 3 1 [zi (0:Int)])::(b3,.cells 63 1 [.slice ad l.length cap])::H) (fun k Ws2 Hr=>Ws2=qay Ws l k∧Hr=(lp,.obj (.loop r))::(D,.obj (.deferred (some [])))::(b5,.cells 3 1 [zi ((JA Ws l k:Nat):Int)])::(b3,.cells 63 1 [.slice ad l.length cap])::H) (fun _ _=>False) (fun _ _=>true) Tryz.call263 hn64 (fun k Ws' Hr hJ=>by rw [hJ.1,qjj]) (fun k Ws2 HB2 Hr w hk hw hB2 hJ=>qf5.at trivial) (fun k Ws2 Hr w hk hw hJ hs=>by cases hs) ?_ hB ⟨by unfold qay; rw [List.take_zero,List.drop_zero]; rfl,rfl⟩).hsub zH).mono ?_
 ·intro k Ws2 HB2 Hr w hk hw hB2 hJ hs
  obtain ⟨rfl,rfl⟩:=hJ
  obtain ⟨w2,hw2⟩:∃ w2,Ws[k]?=some w2:=⟨_,List.getElem?_eq_getElem hk⟩
  obtain rfl:w=w2:=Option.some.inj (hw.symm.trans (qlj hw2))
  obtain ⟨HW,HR,hW,hs1,hs2⟩:=hB2.at hw
  have hc1:=qcI Ws l k
  have hc2:=qb4 w.L l
  have hc3:=qlm (l:=l) hw2
  have hc4:k*l.length≤64*l.length:=Nat.mul_le_mul_right _ zO
  refine QB hst hpd hA hps rfl hasg rfl rfl rfl zT ?_
  refine za 3 rfl (JS hst hpd zT hbody (qcP ?_))
  refine Rd.W_anyS [(b5,.cells 3 1 [zi ((JA Ws l k:Nat):Int)]),(b3,.cells 63 1 [.slice ad l.length cap])] 5 zk ?_
  refine Rd.WS_take 0 (l':=#[true,false,false,false,false,false]) rfl rfl zK zK zK zK zK rfl zK (ql (v:=zi (JA Ws l k:Nat)) rfl ty3 rfl (qh.own (b:=b5) zM rfl)) rfl ?_
  refine Rd.WS_take 1 (l':=#[true,true,false,false,false,false]) rfl rfl zK zK zK zK zK rfl zK (ze rfl) rfl ?_
  refine Rd.WS_take 2 (l':=#[true,true,true,false,false,false]) rfl rfl zK zK zK zK zK rfl zK (ql (v:=.slice ad l.length cap) rfl qZ rfl (qh.own (b:=b3) zM rfl)) rfl ?_
  refine Rd.WS_one 3 zH rfl zK rfl rfl ?_
  refine qT (H':=HW++(HR++((lp,.obj (.loop (Loop.at r .busy none)))::(b2_,.cells 167 1 [zp bb])::(b3_,.cells 285 1 [(Value.func (.func 263) #[] #[])])::(D,.obj (.deferred (some [])))::(b5,.cells 3 1 [zi ((JA Ws l k:Nat):Int)])::(b3,.cells 63 1 [.slice ad l.length cap])::H))) ((show qr _ (HB2++((lp,.obj (.loop (Loop.at r .busy none)))::(b2_,.cells 167 1 [zp bb])::(b3_,.cells 285 1 [(Value.func (.func 263) #[] #[])])::(D,.obj (.deferred (some [])))::(b5,.cells 3 1 [zi ((JA Ws l k:Nat):Int)])::(b3,.cells 63 1 [.slice ad l.length cap])::H)) from zH).trans (hs1 _)) ?_
  refine qn (zc2 rfl rfl) Tryz.call264 rfl (Del_L (l:=l) hW hl (H:=HR++((lp,.obj (.loop (Loop.at r .busy none)))::(b2_,.cells 167 1 [zp bb])::(b3_,.cells 285 1 [(Value.func (.func 263) #[] #[])])::(D,.obj (.deferred (some [])))::(b5,.cells 3 1 [zi ((JA Ws l k:Nat):Int)])::(b3,.cells 63 1 [.slice ad l.length cap])::H)) (hrow.up zH)) ?_
  rintro v H' ⟨HW',hW',rfl,rfl⟩
  obtain ⟨HB3,hB3,hs3⟩:=hs2 (XP l w) HW' rfl hW'
  rw [qji hw2] at hB3
  refine qT (hs3 _) ?_
  refine qs ?_
  refine Rd.WS_goal ?_
  refine Rd.WS_take 4 (l':=#[true,true,true,true,true,false]) rfl rfl zK zK zK zK zK rfl zK (QQ rfl rfl (qM (m:=((JA Ws l (k+1):Nat):Int)) (by rw [qW (by omega)]; omega))) rfl ?_
  refine Rd.WS_last zH zK rfl rfl ?_
  refine qy (l':=[zi (JA Ws l (k+1):Nat)]) rfl rfl ty3 rfl rfl (b:=b5) zM rfl rfl zU ?_
  refine qs ?_
  refine Rd.WC_goal ?_
  refine Rd.WC_done (.nil _) zK ?_
  refine qmg (Zo zT ?_)
  rw [hr]
  exact ⟨qay Ws l (k+1),HB3,(lp,.obj (.loop r))::(D,.obj (.deferred (some [])))::(b5,.cells 3 1 [zi ((JA Ws l (k+1):Nat):Int)])::(b3,.cells 63 1 [.slice ad l.length cap])::H,hB3,zH,.inl ⟨rfl,rfl,rfl⟩⟩
 ·intro _ H' hp
  obtain ⟨Ws2,HB2,Hr,hB2,hs,hJS⟩:=hp
  obtain ⟨rfl,rfl⟩:=hJS.resolve_right (fun h=>h)
  rw [qjk] at hB2
  refine ⟨.ready,none,(b2_,.cells 167 1 [zp bb])::(b3_,.cells 285 1 [(Value.func (.func 263) #[] #[])])::(HB2++((D,.obj (.deferred (some [])))::(b5,.cells 3 1 [zi ((JA Ws l Ws.length:Nat):Int)])::(b3,.cells 63 1 [.slice ad l.length cap])::H)),by rw [hr]; exact hs.trans zH,by decide,?_⟩
  show W _ _ _ _ _ _ _ _ _
  refine za 2 rfl ?_
  refine qf (v:=zi (JA Ws l Ws.length:Nat)) rfl ty3 rfl (qh.own (b:=b5) zM rfl) rfl ?_
  refine za 2 rfl ?_
  refine qj (H2:=HB2++H) Tryz.results178 rfl (.cons zT (.nil _)) zH ?_
  exact ⟨HB2,hB2,rfl,rfl⟩
structure Jd where
 made:Bool
 shut:Bool
 prog:Int
 starts:Int
variable {A As:List Jd} {o o':Jd}
def Q6 (o:Jd):List Value:=[.bool o.made,.bool o.shut,zi o.prog,zi o.starts]
theorem ZV (o:Jd):(Q6 o).length=4:=rfl
def zc (pb bb:Nat) (A:List Jd):List Value:=zp pb::zp bb::A.flatMap Q6
def QK:Jd:=⟨false,false,0,0⟩
theorem qi3 (h:A[i]?=some o) (hj:j<4):(A.flatMap Q6)[i*4+j]?=(Q6 o)[j]?:=by
 induction A generalizing i with
 | nil=>simp at h
 | cons x A ih =>
  cases i with
  | zero =>
   obtain rfl:x=o:=by simpa using h
   rw [Nat.zero_mul,Nat.zero_add,List.flatMap_cons,List.getElem?_append_left (by rw [ZV]; exact hj)]
  | succ i =>
   rw [List.flatMap_cons,List.getElem?_append_right (by rw [ZV]; omega),ZV,show (i+1)*4+j-4=i*4+j by omega]
   exact ih (by simpa using h)
theorem qd1 (A:List Jd):(zc pb bb A).length=A.length*4+2:=by
 unfold zc; rw [List.length_cons,List.length_cons,Xj ZV]
theorem qgP (h:A[i]?=some o) (hj:j<4):(zc pb bb A)[2+i*4+j]?=(Q6 o)[j]?:=by
 unfold zc
 rw [show 2+i*4+j=(i*4+j)+1+1 by omega,List.getElem?_cons_succ,List.getElem?_cons_succ,qi3 h hj]
theorem tm_lt (h:A[i]?=some o) (hj:j<4):Nat.blt (2+i*4+j) (zc pb bb A).length=true:=by
 have:=(List.getElem?_eq_some_iff.1 h).1
 rw [qd1,Nat.blt_eq]; omega
theorem qeP (h:A[i]?=some o):(zc pb bb A)[2+i*4+1]?=some (.bool o.shut):=qgP (j:=1) h zd
theorem qfY (h:A[i]?=some o) (hj:j<4) (e:(Q6 o).set j v=Q6 o'):(A.flatMap Q6).set (i*4+j) v=(A.set i o').flatMap Q6:=by
 induction A generalizing i with
 | nil=>simp at h
 | cons x A ih =>
  cases i with
  | zero =>
   obtain rfl:x=o:=by simpa using h
   rw [Nat.zero_mul,Nat.zero_add,List.flatMap_cons,List.set_append_left _ _ (by rw [ZV]; exact hj),e]
   rfl
  | succ i =>
   rw [List.flatMap_cons,List.set_append_right _ _ (by rw [ZV]; omega),ZV,show (i+1)*4+j-4=i*4+j by omega,ih (by simpa using h)]
   rfl
theorem qmp (h:A[i]?=some o) (hj:j<4) (e:(Q6 o).set j v=Q6 o'):(zc pb bb A).set (2+i*4+j) v=zc pb bb (A.set i o'):=by
 unfold zc
 rw [show 2+i*4+j=(i*4+j)+1+1 by omega,List.set_cons_succ,List.set_cons_succ,qfY h hj e]
theorem qj6 {x:Bool} (h:A[i]?=some o):(zc pb bb A).set (2+i*4+1) (.bool x)=zc pb bb (A.set i { o with shut:=x }):=qmp (j:=1) h zd rfl
theorem qi1 (h:i<A.length):zf (A.flatMap Q6) (i*4) (Q6 o')=(A.set i o').flatMap Q6:=YE ZV o' h
theorem qmo (h:i<A.length):zf (zc pb bb A) (2+i*4) (Q6 o')=zc pb bb (A.set i o'):=by
 have e:=qi1 (o':=o') h
 unfold zf at e ⊢
 unfold zc
 rw [← e,show 2+i*4=(i*4)+1+1 by omega,List.take_succ_cons,List.take_succ_cons,show (i*4)+1+1+(Q6 o').length=(i*4+(Q6 o').length)+1+1 by omega,List.drop_succ_cons,List.drop_succ_cons]
 rfl
theorem qj7 (h:A[i]?=some o):((zc pb bb A).drop (2+i*4)).take 4=Q6 o:=by
 apply List.ext_getElem?
 intro j
 by_cases c:j<4
 ·rw [List.getElem?_take,if_pos c,List.getElem?_drop,qgP h c]
 ·rw [List.getElem?_eq_none (by rw [List.length_take]; omega),List.getElem?_eq_none (by rw [ZV]; omega)]
structure X0 (A:List Jd):Prop where
 len:A.length=256
 rng:∀ o∈A,0≤o.prog∧o.prog≤16
theorem X0.set (h:X0 A) (i:Nat) (hp:0≤o.prog∧o.prog≤16):X0 (A.set i o):=⟨by rw [List.length_set,h.len],fun x hx=>by
 rcases List.mem_or_eq_of_mem_set hx with hx | rfl
 ·exact h.rng x hx
 ·exact hp⟩
theorem X0.at (h:X0 A) (hi:i<256):∃ o,A[i]?=some o:=⟨_,List.getElem?_eq_getElem (by rw [h.len]; exact hi)⟩
inductive J8 (tb n:Nat) (Ws:List Wl) (Q Rs:List (Int × Int)) (As:List Jd):qe→Prop
 | mk {pb bb:Nat} {HP HB:qe} (hP:z6 pb n Q Rs HP) (hB:QJ bb Ws HB) (hA:X0 As) (hn:Ws.length=n∧n≤64):J8 tb n Ws Q Rs As ((tb,.cells 170 1026 (zc pb bb As))::(HP++HB))
theorem qj0 (hi:id<0):Zu Tryz.prog (fun _=>True) 165 [zp tb,zi id,f] (zi 2):=by
 intro w0 H hT
 refine qd Tryz.func165 rfl Tryz.ntmps165 rfl rfl (za 7 rfl ?_)
 refine W_x (qE rfl rfl Y3) (fun _ h=>by cases h) rfl ?_
 refine za 6 rfl ?_
 first | rw [decide_eq_true (by omega)] | rw [decide_eq_false (by omega)]
 refine za 10 rfl ?_
 refine qj (H2:=H) Tryz.results165 rfl (.nil _) zH ?_
 exact ⟨rfl,rfl⟩
theorem qj1 (hi:256≤id):Zu Tryz.prog (fun _=>True) 165 [zp tb,zi id,f] (zi 2):=by
 intro w0 H hT
 refine qd Tryz.func165 rfl Tryz.ntmps165 rfl rfl (za 7 rfl ?_)
 refine W_x (qE rfl rfl Y3) (fun _ h=>by cases h) rfl ?_
 refine za 6 rfl ?_
 first | rw [decide_eq_true (by omega)] | rw [decide_eq_false (by omega)]
 refine za 5 rfl ?_
 first | rw [decide_eq_true (by omega)] | rw [decide_eq_false (by omega)]
 refine za 7 rfl ?_
 refine qj (H2:=H) Tryz.results165 rfl (.nil _) zH ?_
 exact ⟨rfl,rfl⟩
theorem qaP (hi:¬ (0≤id∧id<256)):Zu Tryz.prog (fun _=>True) 165 [zp tb,zi id,f] (zi 2):=by
 by_cases h:id<0
 ·exact qj0 h
 ·exact qj1 zO
theorem qaB (hfi:∀ (args:Array Value) (w:World),(callFunc fi args).run Tryz.prog w=.ok (.enter fi args) w) (hi:i<256) (hdo:qk Tryz.prog w0 fi (#[]++#[.pointer (some ⟨tb,2+i*4,none⟩)]++ca.toArray) H R) (hE:∀ v H2,R v H2→∃ e,v=zi e) :qk Tryz.prog w0 165 #[zp tb,zi (i:Int),Value.func (.func fi) #[] ca.toArray] (H) (R):=by
 refine qd (l:=[zp tb,zi (i:Int),Value.func (.func fi) #[] ca.toArray]) Tryz.func165 rfl Tryz.ntmps165 rfl rfl ?_
 refine za 7 rfl ?_
 refine W_x (qE rfl rfl Y3) (fun _ h=>by cases h) rfl ?_
 refine za 6 rfl ?_
 first | rw [decide_eq_true (by omega)] | rw [decide_eq_false (by omega)]
 refine za 5 rfl ?_
 first | rw [decide_eq_true (by omega)] | rw [decide_eq_false (by omega)]
 refine za 12 rfl ?_
 refine zh (j:=i) rfl rfl qlX Jh (by first | rfl | omega) (by first | decide | omega | simp) rfl rfl ?_
 refine JR (fa:=#[]) (ca:=ca.toArray) rfl (.cons rfl .nil) hfi rfl (hdo) ?_
 rintro v H' hR
 refine za 2 rfl ?_
 refine qj (H2:=H') Tryz.results165 rfl (.nil _) zH ?_
 exact hR
theorem qef (hA:As[i]?=some o) (hm:(tb,.cells 170 1026 (zc pb bb As))∈H) (hs:o.shut=true) :qG Tryz.prog w0 H 166 [.pointer (some ⟨tb,2+i*4,none⟩),zp b5] (zi 22):=by
 refine qd Tryz.func166 rfl Tryz.ntmps166 rfl rfl (za 8 rfl ?_)
 refine qf (v:=.bool true) rfl ty4 rfl (qh.own (b:=tb) hm (hs ▸ qeP hA)) rfl ?_
 refine za 5 rfl ?_
 refine qj (H2:=H) Tryz.results166 rfl (.nil _) zH ?_
 exact ⟨rfl,rfl⟩
theorem qhl (hfi:∀ (args:Array Value) (w:World),(callFunc fi args).run Tryz.prog w=.ok (.enter fi args) w) (hA:As[i]?=some o) (hm:(tb,.cells 170 1026 (zc pb bb As))∈H) (hs:o.shut=false) (hdo:qk Tryz.prog w0 fi (#[]++#[.pointer (some ⟨tb,2+i*4,none⟩)]++ca.toArray) H R) :qk Tryz.prog w0 166 #[.pointer (some ⟨tb,2+i*4,none⟩),zp b5] ((b5,.cells 154 1 [Value.func (.func fi) #[] ca.toArray])::H) (R):=by
 refine qd (l:=[.pointer (some ⟨tb,2+i*4,none⟩),zp b5]) Tryz.func166 rfl Tryz.ntmps166 rfl rfl ?_
 refine za 8 rfl ?_
 refine qf (v:=.bool false) rfl ty4 rfl (qh.own (b:=tb) (List.mem_cons_of_mem _ hm) (hs ▸ qeP hA)) rfl ?_
 refine za 4 rfl ?_
 refine qf (v:=Value.func (.func fi) #[] ca.toArray) rfl ty154 rfl (qh.own (b:=b5) zM rfl) rfl ?_
 refine qH rfl rfl ?_
 refine JR (fa:=#[]) (ca:=ca.toArray) rfl (.cons rfl .nil) hfi rfl (hdo.hsub zH) ?_
 rintro v H' hR
 refine za 2 rfl ?_
 refine qj (H2:=H') Tryz.results166 rfl (.nil _) zH ?_
 exact hR
theorem qhk {fa ca:Array Value} (hi:¬ (0≤id∧id<256)):Zu Tryz.prog (fun _=>True) 76 [zp tb,zi id,.func (.func fi) fa ca] (zi 2):=by
 intro w0 H hT
 refine qd Tryz.func76 rfl Tryz.ntmps76 rfl rfl (zo ?_)
 refine qR (l:=[.func (.func fi) fa ca]) rfl rfl rfl (fun b5=>?_)
 refine za 5 rfl (qL .nil (.cons rfl .nil) rfl ?_)
 refine zI (zc3 rfl rfl rfl) Tryz.call165 rfl (T:=fun _=>True) trivial (qaP hi) ?_
 refine za 2 rfl ?_
 refine qj (H2:=H) Tryz.results76 rfl (.nil _) zH ?_
 exact ⟨rfl,rfl⟩
theorem qfH (hi:i<256) (hA:As[i]?=some o) (hm:(tb,.cells 170 1026 (zc pb bb As))∈H) (hs:o.shut=true) :qk Tryz.prog w0 76 #[zp tb,zi (i:Int),Value.func (.func fi) #[] ca.toArray] (H) (fun v H'=>v=zi 22∧H'=H):=by
 refine qd (l:=[zp tb,zi (i:Int),Value.func (.func fi) #[] ca.toArray]) Tryz.func76 rfl Tryz.ntmps76 rfl rfl ?_
 refine zo ?_
 refine qR (l:=[Value.func (.func fi) #[] ca.toArray]) rfl rfl rfl (fun b5=>?_)
 refine za 5 rfl (qL .nil (.cons rfl .nil) rfl ?_)
 refine qn (zc3 rfl rfl rfl) Tryz.call165 rfl (qaB (i:=i) (fi:=166) (ca:=[zp b5]) Tryz.call166 hi (qef hA (List.mem_cons_of_mem _ hm) hs) ?_) ?_
 ·rintro v H' ⟨rfl,rfl⟩
  exact ⟨_,rfl⟩
 rintro v H' ⟨rfl,rfl⟩
 refine za 2 rfl ?_
 refine qj (H2:=H) Tryz.results76 rfl (.nil _) zH ?_
 exact ⟨rfl,rfl⟩
theorem qkB (hfi:∀ (args:Array Value) (w:World),(callFunc fi args).run Tryz.prog w=.ok (.enter fi args) w) (hi:i<256) (hA:As[i]?=some o) (hm:(tb,.cells 170 1026 (zc pb bb As))∈H) (hs:o.shut=false) (hdo:qk Tryz.prog w0 fi (#[]++#[.pointer (some ⟨tb,2+i*4,none⟩)]++ca.toArray) H R) (hE:∀ v H2,R v H2→∃ e,v=zi e) :qk Tryz.prog w0 76 #[zp tb,zi (i:Int),Value.func (.func fi) #[] ca.toArray] (H) (R):=by
 refine qd (l:=[zp tb,zi (i:Int),Value.func (.func fi) #[] ca.toArray]) Tryz.func76 rfl Tryz.ntmps76 rfl rfl ?_
 refine zo ?_
 refine qR (l:=[Value.func (.func fi) #[] ca.toArray]) rfl rfl rfl (fun b5=>?_)
 refine za 5 rfl (qL .nil (.cons rfl .nil) rfl ?_)
 refine qn (zc3 rfl rfl rfl) Tryz.call165 rfl (qaB (i:=i) (fi:=166) (ca:=[zp b5]) Tryz.call166 hi (qhl hfi hA hm hs hdo) ?_) ?_
 ·exact hE
 rintro v H' hR
 refine za 2 rfl ?_
 refine qj (H2:=H') Tryz.results76 rfl (.nil _) zH ?_
 exact hR
abbrev St:=List (Nat × List Tm)
structure Rw where
 now:Nat
 L:List Tm
 ad:Option Addr
 cap:Nat
def Rw.nl (d:Rw):Nat × List Tm:=(d.now,d.L)
def Wl.nl (w:Wl):Nat × List Tm:=(w.now,w.L)
abbrev stW (Ws:List Wl):St:=Ws.map Wl.nl
def qlh (S:St) (id:Int):St:=S.map (fun x=>(x.1,K7 x.2 id))
theorem qjg (Ws:List Wl) (id:Int):stW (Ws.map (XP [id]))=qlh (stW Ws) id:=by
 unfold stW qlh
 rw [List.map_map,List.map_map]
 exact List.map_congr_left fun w _=>rfl
def qlE (S:St):Prop:=∀ (i j:Nat) x y,S[i]?=some x→S[j]?=some y→∀ t∈x.2,∀ u∈y.2,t.id=u.id→i=j
theorem qlE.del {S:St} (h:qlE S) (id:Int):qlE (qlh S id):=fun i j x y hx hy t ht u hu e=>by
 unfold qlh at hx hy
 rw [List.getElem?_map] at hx hy
 obtain ⟨x',hx',rfl⟩:=Option.map_eq_some_iff.1 hx
 obtain ⟨y',hy',rfl⟩:=Option.map_eq_some_iff.1 hy
 exact h i j x' y' hx' hy' t (List.mem_filter.1 ht).1 u (List.mem_filter.1 hu).1 e
structure BOk (T:Nat) (Ws:List Wl):Prop where
 now:∀ w∈Ws,w.now≤18446744073709551615
 later:∀ w∈Ws,∀ t∈w.L,w.now<t.s.due
 turn:∀ w∈Ws,w.turn≤T
 uni:qlE (stW Ws)
theorem BOk.start (hn:now≤18446744073709551615) (hf:∀ w∈Ws,XY now w):BOk 0 Ws:=by
 refine ⟨fun w hw=>?_,fun w hw t ht=>?_,fun w hw=>?_,fun i j x y hx _ t ht=>?_⟩
 ·rw [(hf w hw).1]; exact hn
 ·rw [(hf w hw).2.1] at ht; cases ht
 ·rw [(hf w hw).2.2]; exact Nat.le_refl _
 ·obtain ⟨w,hw,rfl⟩:=List.mem_map.1 (List.mem_of_getElem? hx)
  have ht2:t∈w.L:=ht
  rw [(hf w hw).2.1] at ht2; cases ht2
theorem BOk.up {T':Nat} (h:BOk T Ws) (hl:T≤T'):BOk T' Ws:=⟨h.now,h.later,fun w hw=>Nat.le_trans (h.turn w hw) hl,h.uni⟩
theorem BOk.del (h:BOk T Ws) (id:Int):BOk T (Ws.map (XP [id])):=by
 refine ⟨fun u hu=>?_,fun u hu t ht=>?_,fun u hu=>?_,by rw [qjg]; exact h.uni.del id⟩
 ·obtain ⟨w,hw,rfl⟩:=List.mem_map.1 hu
  exact h.now w hw
 ·obtain ⟨w,hw,rfl⟩:=List.mem_map.1 hu
  exact h.later w hw t (List.mem_filter.1 ht).1
 ·obtain ⟨w,hw,rfl⟩:=List.mem_map.1 hu
  exact h.turn w hw
def setO (prog:Int) (o:Jd):Jd × Int:=if o.shut=true then (o,22) else if o.made=false then (o,1) else ({ o with prog:=prog+1 },0)
def qgA (Ws:List Wl) (Q:List (Int × Int)) (z:Int):Bool:=decide (0<JA Ws [z] Ws.length+(Qr Q [z]).2)
theorem qgR (hP:z6 pb n Q Rs HP) (hB:QJ bb Ws HBk) (hn:Ws.length=n∧n≤64) :qk Tryz.prog w0 91 #[zp tb,zi z] ((tb,.cells 170 1026 (zc pb bb As))::(HP++(HBk++H))) (fun v H'=>∃ HP2 HB2,z6 pb n (ZL Q z) Rs HP2∧QJ bb (Ws.map (XP [z])) HB2∧v=.bool (qgA Ws Q z)∧H'=(tb,.cells 170 1026 (zc pb bb As))::(HP2++(HB2++H))):=by
 have hc1:=qcI Ws [z] Ws.length
 have hc2:(Qr Q [z]).2≤1:=qbp Q [z] 1 (Nat.le_refl _)
 rw [List.length_singleton,Nat.mul_one] at hc1
 refine qd (l:=[zp tb,zi z]) Tryz.func91 rfl Tryz.ntmps91 rfl rfl ?_
 refine za 4 rfl ?_
 refine qbD (X:=(qe × qe)) (fun _=>[(4,.bool (qgA Ws Q z))]) (fun x=>(tb,.cells 170 1026 (zc pb bb As))::(x.1++(x.2++H))) (fun x=>z6 pb n (ZL Q z) Rs x.1∧QJ bb (Ws.map (XP [z])) x.2) ?_ ?_
 ·skip
  refine zy [(tb,.cells 170 1026 (zc pb bb As))] zk ?_
  refine zw [0,1,2] rfl rfl ?_
  refine qm 3 rfl zK zK zK rfl rfl (ql (v:=zp bb) rfl qcV rfl (qh.own (b:=tb) zM rfl)) rfl ?_
  refine zw [4,7,8,9] rfl rfl ?_
  refine qm 10 rfl zK zK zK rfl rfl (ql (v:=zp pb) rfl Yx rfl (qh.own (b:=tb) zM rfl)) rfl ?_
  refine zw [11] rfl rfl ?_
  refine qac 5 12 zH zK rfl rfl rfl rfl ?_ ?_
  ·skip
   refine qv (l:=[zi z]) qZ ty3 (.cons rfl rfl rfl rfl rfl .nil) rfl rfl rfl rfl rfl rfl rfl (fun b10=>?_)
   refine qs (WC_goal ?_)
   refine qac 6 12 zH zK rfl rfl rfl rfl ?_ ?_
   ·skip
    refine qn (zc2 rfl rfl) Tryz.call178 rfl ((qeK hB zO (l:=[z]) (ad:=some ⟨b10,0,none⟩) (cap:=1) (by show 1≤4611686018427387904; decide) (by show 1≤1000000; decide) (Holds.own (b:=b10) zM) (H:=(b10,.cells 3 1 [zi z])::(tb,.cells 170 1026 (zc pb bb As))::(HP++H))).hsub zH) ?_
    rintro v H' ⟨HB2,hB2,rfl,rfl⟩
    refine qs (WC_goal ?_)
    refine qJ 12 zH zK rfl rfl ?_
    refine qv (l:=[zi z]) qZ ty3 (.cons rfl rfl rfl rfl rfl .nil) rfl rfl rfl rfl rfl rfl rfl (fun b17=>?_)
    refine qs (WC_goal ?_)
    refine qJ 13 zH zK rfl rfl ?_
    refine qn (zc2 rfl rfl) Tryz.call179 rfl ((KV hP zO (ids:=[z]) (ad:=some ⟨b17,0,none⟩) (cap:=1) (by show 1≤1000000; decide) (Holds.own (b:=b17) zM) (H:=(b17,.cells 3 1 [zi z])::(tb,.cells 170 1026 (zc pb bb As))::(HB2++H))).hsub zH) ?_
    rintro v H' ⟨HP2,hP2,rfl,rfl⟩
    refine qs (WC_goal ?_)
    refine qm 14 rfl zK zK zK rfl rfl (QQ rfl rfl (qM (m:=((JA Ws [z] Ws.length+(Qr Q [z]).2:Nat):Int)) (by rw [qW (by omega)]; omega))) rfl ?_
    refine zw [15] rfl rfl ?_
    rw [show decide ((0:Int)<((JA Ws [z] Ws.length+(Qr Q [z]).2:Nat):Int))=qgA Ws Q z from decide_eq_decide.2 (by omega)]
    refine zw [16] rfl rfl (WC_done zH zK ?_)
    refine Z0 (HP2,HB2) ⟨hP2,hB2⟩ (qc rfl (qi _)) zH
   ·skip
    refine qv (l:=[zi z]) qZ ty3 (.cons rfl rfl rfl rfl rfl .nil) rfl rfl rfl rfl rfl rfl rfl (fun b17=>?_)
    refine qs (WC_goal ?_)
    refine qJ 6 zH zK rfl rfl ?_
    refine qn (zc2 rfl rfl) Tryz.call178 rfl ((qeK hB zO (l:=[z]) (ad:=some ⟨b10,0,none⟩) (cap:=1) (by show 1≤4611686018427387904; decide) (by show 1≤1000000; decide) (Holds.own (b:=b10) zM) (H:=(b10,.cells 3 1 [zi z])::(b17,.cells 3 1 [zi z])::(tb,.cells 170 1026 (zc pb bb As))::(HP++H))).hsub zH) ?_
    rintro v H' ⟨HB2,hB2,rfl,rfl⟩
    refine qs (WC_goal ?_)
    refine qJ 13 zH zK rfl rfl ?_
    refine qn (zc2 rfl rfl) Tryz.call179 rfl ((KV hP zO (ids:=[z]) (ad:=some ⟨b17,0,none⟩) (cap:=1) (by show 1≤1000000; decide) (Holds.own (b:=b17) zM) (H:=(b17,.cells 3 1 [zi z])::(tb,.cells 170 1026 (zc pb bb As))::(HB2++H))).hsub zH) ?_
    rintro v H' ⟨HP2,hP2,rfl,rfl⟩
    refine qs (WC_goal ?_)
    refine qm 14 rfl zK zK zK rfl rfl (QQ rfl rfl (qM (m:=((JA Ws [z] Ws.length+(Qr Q [z]).2:Nat):Int)) (by rw [qW (by omega)]; omega))) rfl ?_
    refine zw [15] rfl rfl ?_
    rw [show decide ((0:Int)<((JA Ws [z] Ws.length+(Qr Q [z]).2:Nat):Int))=qgA Ws Q z from decide_eq_decide.2 (by omega)]
    refine zw [16] rfl rfl (WC_done zH zK ?_)
    refine Z0 (HP2,HB2) ⟨hP2,hB2⟩ (qc rfl (qi _)) zH
  ·skip
   refine qv (l:=[zi z]) qZ ty3 (.cons rfl rfl rfl rfl rfl .nil) rfl rfl rfl rfl rfl rfl rfl (fun b17=>?_)
   refine qs (WC_goal ?_)
   refine qJ 5 zH zK rfl rfl ?_
   refine qv (l:=[zi z]) qZ ty3 (.cons rfl rfl rfl rfl rfl .nil) rfl rfl rfl rfl rfl rfl rfl (fun b10=>?_)
   refine qs (WC_goal ?_)
   refine qJ 6 zH zK rfl rfl ?_
   refine qn (zc2 rfl rfl) Tryz.call178 rfl ((qeK hB zO (l:=[z]) (ad:=some ⟨b10,0,none⟩) (cap:=1) (by show 1≤4611686018427387904; decide) (by show 1≤1000000; decide) (Holds.own (b:=b10) zM) (H:=(b10,.cells 3 1 [zi z])::(b17,.cells 3 1 [zi z])::(tb,.cells 170 1026 (zc pb bb As))::(HP++H))).hsub zH) ?_
   rintro v H' ⟨HB2,hB2,rfl,rfl⟩
   refine qs (WC_goal ?_)
   refine qJ 13 zH zK rfl rfl ?_
   refine qn (zc2 rfl rfl) Tryz.call179 rfl ((KV hP zO (ids:=[z]) (ad:=some ⟨b17,0,none⟩) (cap:=1) (by show 1≤1000000; decide) (Holds.own (b:=b17) zM) (H:=(b17,.cells 3 1 [zi z])::(tb,.cells 170 1026 (zc pb bb As))::(HB2++H))).hsub zH) ?_
   rintro v H' ⟨HP2,hP2,rfl,rfl⟩
   refine qs (WC_goal ?_)
   refine qm 14 rfl zK zK zK rfl rfl (QQ rfl rfl (qM (m:=((JA Ws [z] Ws.length+(Qr Q [z]).2:Nat):Int)) (by rw [qW (by omega)]; omega))) rfl ?_
   refine zw [15] rfl rfl ?_
   rw [show decide ((0:Int)<((JA Ws [z] Ws.length+(Qr Q [z]).2:Nat):Int))=qgA Ws Q z from decide_eq_decide.2 (by omega)]
   refine zw [16] rfl rfl (WC_done zH zK ?_)
   refine Z0 (HP2,HB2) ⟨hP2,hB2⟩ (qc rfl (qi _)) zH
 rintro ⟨HP2,HB2⟩ ⟨hP2,hB2⟩
 dsimp only at hP2 hB2 ⊢
 refine qj (H2:=(tb,.cells 170 1026 (zc pb bb As))::(HP2++(HB2++H))) Tryz.results91 rfl (.nil _) zH ?_
 exact ⟨HP2,HB2,hP2,hB2,rfl,rfl⟩
structure TOk (T:Nat) (Ws:List Wl) (As:List Jd):Prop where
 bank:BOk T Ws
 starts:∀ o∈As,0≤o.starts∧o.starts≤(T:Int)
theorem TOk.up {T':Nat} (h:TOk T Ws As) (hl:T≤T'):TOk T' Ws As:=⟨h.bank.up hl,fun o ho=>by have:=h.starts o ho; omega⟩
theorem qkR (hm:(tb,.cells 170 1026 (zc pb bb As))∈H) :qG Tryz.prog w0 H 101 [zp tb] (zp pb):=by
 refine qd Tryz.func101 rfl Tryz.ntmps101 rfl rfl (za 6 rfl ?_)
 refine W_x (qE rfl rfl Y3) (fun _ h=>by cases h) rfl ?_
 refine za 7 rfl ?_
 refine qf (v:=zp pb) rfl Yx rfl (qh.own (b:=tb) hm rfl) rfl ?_
 refine za 2 rfl ?_
 refine qj (H2:=H) Tryz.results101 rfl (.nil _) zH ?_
 exact ⟨rfl,rfl⟩
theorem qcX (hP:z6 pb n Q Rs HP) (hn:Ws.length=n∧n≤64) (hm:∀ p∈((tb,.cells 170 1026 (zc pb bb As))::(HP++HBk)),p∈H) :qG Tryz.prog w0 H 157 [zp tb,zi id] (JY (inR Rs id)):=by
 refine qd Tryz.func157 rfl Tryz.ntmps157 rfl rfl (za 6 rfl ?_)
 refine qB (zc1 rfl) Tryz.call101 rfl (qkR (pb:=pb) (bb:=bb) (As:=As) (hm _ List.mem_cons_self)) ?_
 refine qH rfl rfl ?_
 refine qB (zc2 rfl rfl) Tryz.call252 rfl (hP.Runs_q (id:=id) (fun p hp=>hm p (List.mem_cons_of_mem _ (List.mem_append_left _ hp)))) ?_
 obtain ⟨rx,rb,er⟩:∃ (x:Int) (b:Bool),JY (inR Rs id)=.tuple #[.int .i64 x,.bool b]:=by rcases qfG (inR Rs id) with ⟨_,e⟩ | ⟨cx,_,e⟩ <;> exact ⟨_,_,e⟩
 rw [er]
 refine za 5 rfl ?_
 refine qP (H2:=H) Tryz.results157 rfl rfl (.nil _) zH ?_
 exact ⟨rfl,rfl⟩
def qak (s:List Wl × List (Int × Int) × List Jd × Nat) (id:Int):List Wl × List (Int × Int) × List Jd × Nat:=if 0≤id∧id<256 then (match s.2.2.1[id.toNat]? with
 | some o=>if o.shut=true then s else (s.1.map (XP [id]),ZL s.2.1 id,s.2.2.1.set id.toNat { o with shut:=true },s.2.2.2+1)
 | none=>s) else s
def Qb (Ws:List Wl) (Q:List (Int × Int)) (As:List Jd) (ids:List Int):List Wl × List (Int × Int) × List Jd × Nat:=ids.foldl qak (Ws,Q,As,0)
theorem KR (h:ids[i]?=some z):Qb Ws Q As (ids.take (i+1))=qak (Qb Ws Q As (ids.take i)) z:=by
 unfold Qb; rw [ZR h,List.foldl_append]; rfl
theorem qfu {s:List Wl × List (Int × Int) × List Jd × Nat} (h:¬ (0≤id∧id<256)):qak s id=s:=if_neg h
theorem qc1 {s:List Wl × List (Int × Int) × List Jd × Nat} (hi:i<256) (h:s.2.2.1[i]?=some o):qak s (i:Int)=if o.shut=true then s else (s.1.map (XP [(i:Int)]),ZL s.2.1 (i:Int),s.2.2.1.set i { o with shut:=true },s.2.2.2+1):=by
 unfold qak; rw [if_pos (by omega),show ((i:Nat):Int).toNat=i by omega,h]
theorem qft (hA:X0 As) (z:Int):¬ (0≤z∧z<256)∨(∃ j o,z=((j:Nat):Int)∧j<256∧As[j]?=some o∧o.shut=true)∨(∃ j o,z=((j:Nat):Int)∧j<256∧As[j]?=some o∧o.shut=false):=by
 by_cases hi:0≤z∧z<256
 ·obtain ⟨j,rfl⟩:∃ j:Nat,z=(j:Int):=⟨z.toNat,by omega⟩
  obtain ⟨o,ho⟩:=hA.at (i:=j) zO
  cases hs:o.shut with
  | true=>exact .inr (.inl ⟨j,o,rfl,by omega,ho,hs⟩)
  | false=>exact .inr (.inr ⟨j,o,rfl,by omega,ho,hs⟩)
 ·exact .inl hi
structure ShS where
 i:Nat
 Ws:List Wl
 Q:List (Int × Int)
 As:List Jd
 c:Nat
 HP:qe
 HB:qe
theorem qkh (hP:z6 pb n Q Rs HP) (hB:QJ bb Ws HBk) (hn:Ws.length=n∧n≤64) (hA:As[i]?=some o) {b7:Nat} :qk Tryz.prog w0 243 #[.pointer (some ⟨tb,2+i*4,none⟩),zp b2,zp b7] ((b2,.cells 55 1 [zp tb])::(b7,.cells 3 1 [zi z])::(tb,.cells 170 1026 (zc pb bb As))::(HP++(HBk++H))) (fun v H'=>∃ HP2 HB2,z6 pb n (ZL Q z) Rs HP2∧QJ bb (Ws.map (XP [z])) HB2∧v=zi 0∧H'=(b2,.cells 55 1 [zp tb])::(b7,.cells 3 1 [zi z])::(tb,.cells 170 1026 (zc pb bb (As.set i { o with shut:=true })))::(HP2++(HB2++H))):=by
 refine qd (l:=[.pointer (some ⟨tb,2+i*4,none⟩),zp b2,zp b7]) Tryz.func243 rfl Tryz.ntmps243 rfl rfl ?_
 refine za 4 rfl ?_
 refine qf (v:=zp tb) rfl Y3 rfl (qh.own (b:=b2) zM rfl) rfl ?_
 refine qf (v:=zi z) rfl ty3 rfl (qh.own (b:=b7) zM rfl) rfl ?_
 refine qn (zc2 rfl rfl) Tryz.call91 rfl ((qgR (z:=z) hP hB hn (As:=As) (H:=(b2,.cells 55 1 [zp tb])::(b7,.cells 3 1 [zi z])::H)).hsub zH) ?_
 rintro v H' ⟨HP2,HB2,hP2,hB2,rfl,rfl⟩
 refine za 5 rfl ?_
 refine qy (l':=zc pb bb (As.set i { o with shut:=true })) rfl rfl ty4 rfl rfl (b:=tb) zM (tm_lt hA zd) (qj6 hA) zU ?_
 refine za 4 rfl ?_
 refine qj (H2:=(b2,.cells 55 1 [zp tb])::(b7,.cells 3 1 [zi z])::(tb,.cells 170 1026 (zc pb bb (As.set i { o with shut:=true })))::(HP2++(HB2++H))) Tryz.results243 rfl (.nil _) zH ?_
 exact ⟨HP2,HB2,hP2,hB2,rfl,rfl⟩
theorem qlF (hP:z6 pb n Q Rs HP) (hB:QJ bb Ws HBk) (hn:Ws.length=n∧n≤64) (hA:X0 As) (hil:ids.length≤1000000) (hrow:Holds w0 H ad (ids.map (Value.int .i64))) :qk Tryz.prog w0 150 #[zp tb,.slice ad ids.length cap] ((tb,.cells 170 1026 (zc pb bb As))::(HP++(HBk++H))) (fun v H'=>∃ HP2 HB2,z6 pb n (Qb Ws Q As ids).2.1 Rs HP2∧QJ bb (Qb Ws Q As ids).1 HB2∧X0 (Qb Ws Q As ids).2.2.1∧(Qb Ws Q As ids).1.length=n∧v=zi ((Qb Ws Q As ids).2.2.2:Nat)∧H'=(tb,.cells 170 1026 (zc pb bb (Qb Ws Q As ids).2.2.1))::(HP2++(HB2++H))):=by
 refine qd (l:=[zp tb,.slice ad ids.length cap]) Tryz.func150 rfl Tryz.ntmps150 rfl rfl ?_
 refine zo ?_
 refine qR (l:=[zp tb]) rfl rfl rfl (fun b2=>?_)
 refine za 8 rfl (zY rfl qZ rfl rfl (za 3 rfl ?_))
 refine qV (X:=ShS) [(2,_),(9,_),(10,_)] (fun (x:ShS)=>[(5,zi (x.c:Int)),(11,zi (x.i:Int))]) (fun _=>_) (fun (x:ShS)=>(b2,.cells 55 1 [zp tb])::(tb,.cells 170 1026 (zc pb bb x.As))::(x.HP++(x.HB++H))) (fun (x:ShS)=>x.i≤ids.length∧z6 pb n x.Q Rs x.HP∧QJ bb x.Ws x.HB∧(x.Ws.length=n∧n≤64)∧X0 x.As∧Qb Ws Q As (ids.take x.i)=(x.Ws,x.Q,x.As,x.c)∧x.c≤x.i) (fun (x:ShS)=>ids.length-x.i) ⟨0,Ws,Q,As,0,HP,HBk⟩ ⟨Nat.zero_le _,hP,hB,hn,hA,rfl,Nat.le_refl _⟩ (qc rfl (qc rfl (qc rfl (qi _)))) (qc rfl (qc rfl (qi _))) rfl zH ?_
 rintro ⟨i,Ws1,Q1,As1,c1,HP1,HB1⟩ ⟨hil,hP1,hB1,hn1,hA1,hsh,hci⟩
 dsimp only at hil hP1 hB1 hn1 hA1 hsh hci ⊢
 simp only [List.cons_append,List.nil_append]
 refine za 4 rfl ?_
 refine qq (p:=(i:Int)<(ids.length:Int)) rfl (by simp) (fun q0=>?_) (fun q0=>?_)
 ·skip
  refine za 4 rfl ?_
  obtain ⟨z,hz⟩:∃ z,ids[i]?=some z:=⟨_,List.getElem?_eq_getElem zO⟩
  obtain ⟨q0,p0,rfl,hcz⟩:=hrow.at (i:=i) (v:=.int .i64 z) (by rw [List.getElem?_map,hz]; rfl)
  refine qN (j:=i) rfl rfl qZ ty3 rfl zO rfl rfl ?_
  refine qf (v:=zi z) rfl ty3 rfl (by rw [Nat.mul_one]; exact hcz.up zH) rfl ?_
  refine qA (l:=[zi 0]) ty3 rfl rfl (fun b7=>?_)
  refine qy (l':=[zi z]) rfl rfl ty3 rfl rfl (b:=b7) zM rfl rfl zU ?_
  refine za 2 rfl ?_
  refine qf (v:=zp tb) rfl Y3 rfl (qh.own (b:=b2) zM rfl) rfl ?_
  refine qf (v:=zi z) rfl ty3 rfl (qh.own (b:=b7) zM rfl) rfl ?_
  refine qL .nil (.cons rfl (.cons rfl .nil)) rfl ?_
  rcases qft hA1 z with hi | ⟨j,o,rfl,hj,ho,hs⟩ | ⟨j,o,rfl,hj,ho,hs⟩
  ·skip
   refine zI (zc3 rfl rfl rfl) Tryz.call76 rfl (T:=fun _=>True) trivial (qhk hi) ?_
   refine za 10 rfl ?_
   refine qF rfl rfl (qM (m:=((i+1:Nat):Int)) (by rw [qW (by omega)]; omega)) rfl ?_
   refine za 2 rfl ?_
   refine qI ⟨i+1,Ws1,Q1,As1,c1,HP1,HB1⟩ ⟨by show i+1≤_; omega,hP1,hB1,hn1,hA1,by rw [KR hz,hsh,qfu hi],by show c1≤i+1; omega⟩ (by show ids.length-(i+1)<ids.length-i; omega) (qc rfl (qc rfl (qc rfl (qc rfl (qc rfl (qi _)))))) rfl zH
  ·skip
   refine qn (zc3 rfl rfl rfl) Tryz.call76 rfl ((qfH (ca:=[zp b2,zp b7]) (H:=(b2,.cells 55 1 [zp tb])::(b7,.cells 3 1 [zi (j:Int)])::(tb,.cells 170 1026 (zc pb bb As1))::(HP1++(HB1++H))) hj ho zM hs).hsub zH) ?_
   rintro v H' ⟨rfl,rfl⟩
   refine za 10 rfl ?_
   refine qF rfl rfl (qM (m:=((i+1:Nat):Int)) (by rw [qW (by omega)]; omega)) rfl ?_
   refine za 2 rfl ?_
   refine qI ⟨i+1,Ws1,Q1,As1,c1,HP1,HB1⟩ ⟨by show i+1≤_; omega,hP1,hB1,hn1,hA1,by rw [KR hz,hsh,qc1 hj ho,if_pos hs],by show c1≤i+1; omega⟩ (by show ids.length-(i+1)<ids.length-i; omega) (qc rfl (qc rfl (qc rfl (qc rfl (qc rfl (qi _)))))) rfl zH
  ·skip
   refine qn (zc3 rfl rfl rfl) Tryz.call76 rfl ((qkB (ca:=[zp b2,zp b7]) Tryz.call243 hj ho zM hs (qkh (z:=(j:Int)) (b2:=b2) (b7:=b7) hP1 hB1 hn1 ho (H:=H)) (by rintro v H2 ⟨_,_,_,_,e,_⟩; exact ⟨_,e⟩)).hsub zH) ?_
   rintro v H' ⟨HP2,HB2,hP2,hB2,rfl,rfl⟩
   refine za 9 rfl ?_
   refine qF rfl rfl (qM (m:=((c1+1:Nat):Int)) (by rw [qW (by omega)]; omega)) rfl ?_
   refine za 4 rfl ?_
   refine qF rfl rfl (qM (m:=((i+1:Nat):Int)) (by rw [qW (by omega)]; omega)) rfl ?_
   refine za 2 rfl ?_
   refine qI ⟨i+1,Ws1.map (XP [(j:Int)]),ZL Q1 (j:Int),As1.set j { o with shut:=true },c1+1,HP2,HB2⟩ ⟨by show i+1≤_; omega,hP2,hB2,⟨by show (Ws1.map _).length=n; rw [List.length_map]; exact hn1.1,hn1.2⟩,hA1.set j (o:={ o with shut:=true }) (hA1.rng o (List.mem_of_getElem? ho)),by rw [KR hz,hsh,qc1 hj ho,if_neg (by rw [hs]; decide)],by show c1+1≤i+1; omega⟩ (by show ids.length-(i+1)<ids.length-i; omega) (qc rfl (qc rfl (qc rfl (qc rfl (qc rfl (qi _)))))) rfl zH
 ·skip
  refine za 5 rfl ?_
  refine qj (H2:=(tb,.cells 170 1026 (zc pb bb As1))::(HP1++(HB1++H))) Tryz.results150 rfl (.nil _) zH ?_
  obtain rfl:i=ids.length:=by omega
  rw [List.take_length] at hsh
  rw [hsh]
  exact ⟨HP1,HB1,hP1,hB1,hA1,hn1.1,rfl,rfl⟩
theorem qd3 (ids:List Int) (h:TOk T Ws As):TOk T (Qb Ws Q As ids).1 (Qb Ws Q As ids).2.2.1:=by
 have key:∀ (ids:List Int) (s:List Wl × List (Int × Int) × List Jd × Nat),TOk T s.1 s.2.2.1→TOk T (ids.foldl qak s).1 (ids.foldl qak s).2.2.1:=fun ids=>by
  induction ids with
  | nil=>intro s hs; exact hs
  | cons z ids ih =>
   intro s hs
   refine ih _ ?_
   unfold qak
   split
   ·split
    ·split
     ·exact hs
     ·rename_i o ho _
      refine ⟨hs.bank.del z,fun x hx=>?_⟩
      rcases List.mem_or_eq_of_mem_set hx with hx | rfl
      ·exact hs.starts x hx
      ·exact hs.starts o (List.mem_of_getElem? ho)
    ·exact hs
   ·exact hs
 exact key ids _ h
theorem qne (hT:J8 tb n Ws Q Rs As HB) (hO:TOk T Ws As) (hil:ids.length≤1000000) (hrow:Holds w0 H ad (ids.map (Value.int .i64))) :
  qk Tryz.prog w0 150 #[zp tb,.slice ad ids.length cap] (HB++H) (fun v H'=>∃ HB',J8 tb n (Qb Ws Q As ids).1 (Qb Ws Q As ids).2.1 Rs (Qb Ws Q As ids).2.2.1 HB'∧TOk T (Qb Ws Q As ids).1 (Qb Ws Q As ids).2.2.1∧v=zi ((Qb Ws Q As ids).2.2.2:Nat)∧H'=HB'++H):=by
 cases hT with
 | @mk pb bb HP HBk hP hB hA hn =>
  show qk _ _ _ _ ((tb,.cells 170 1026 (zc pb bb As))::((HP++HBk)++H)) _
  rw [List.append_assoc]
  refine (qlF (H:=H) hP hB hn hA hil hrow).mono ?_
  rintro v H' ⟨HP2,HB2,hP2,hB2,hA2,hl2,rfl,rfl⟩
  exact ⟨_,.mk hP2 hB2 hA2 ⟨hl2,hn.2⟩,qd3 ids hO,rfl,by show _=(tb,.cells 170 1026 (zc pb bb (Qb Ws Q As ids).2.2.1))::((HP2++HB2)++H); rw [List.append_assoc]⟩
theorem qmH {p x:Nat × Blk} {Y Z:qe} (hp:p∈x::(X++Y)):p∈x::(X++(Y++Z)):=by
 rcases List.mem_cons.1 hp with rfl | hp
 ·exact List.mem_cons_self
 ·rcases List.mem_append.1 hp with hp | hp
  ·exact List.mem_cons_of_mem _ (List.mem_append_left _ hp)
  ·exact List.mem_cons_of_mem _ (List.mem_append_right _ (List.mem_append_left _ hp))
def Qu (Ws:List Wl) (Q Rs:List (Int × Int)) (As:List Jd) (i:Nat):List Wl × List (Int × Int) × List Jd × Int:=if (inR Rs (i:Int)).isSome=true then (Ws,Q,As,21) else (Ws.map (XP [(i:Int)]),ZL Q (i:Int),As.set i QK,0)
def zJ (Ws:List Wl) (Q Rs:List (Int × Int)) (As:List Jd) (id:Int):List Wl × List (Int × Int) × List Jd × Int:=if 0≤id∧id<256 then Qu Ws Q Rs As id.toNat else (Ws,Q,As,2)
theorem qgd (hi:i<256):zJ Ws Q Rs As (i:Int)=Qu Ws Q Rs As i:=by
 unfold zJ; rw [if_pos (by omega),show ((i:Nat):Int).toNat=i by omega]
theorem qdI (h:inR Rs (i:Int)=some c):Qu Ws Q Rs As i=(Ws,Q,As,21):=by unfold Qu; rw [h]; rfl
theorem qgc (h:inR Rs (i:Int)=none):Qu Ws Q Rs As i=(Ws.map (XP [(i:Int)]),ZL Q (i:Int),As.set i QK,0):=by unfold Qu; rw [h]; rfl
theorem qjq (hP:z6 pb n Q Rs HP) (hB:QJ bb Ws HBk) (hn:Ws.length=n∧n≤64) (hA:As[i]?=some o) :qk Tryz.prog w0 257 #[.pointer (some ⟨tb,2+i*4,none⟩),zp b2,zp b3] ((b2,.cells 55 1 [zp tb])::(b3,.cells 3 1 [zi (i:Int)])::(tb,.cells 170 1026 (zc pb bb As))::(HP++(HBk++H))) (fun v H'=>∃ HP2 HB2,z6 pb n (Qu Ws Q Rs As i).2.1 Rs HP2∧QJ bb (Qu Ws Q Rs As i).1 HB2∧v=zi (Qu Ws Q Rs As i).2.2.2∧H'=(b2,.cells 55 1 [zp tb])::(b3,.cells 3 1 [zi (i:Int)])::(tb,.cells 170 1026 (zc pb bb (Qu Ws Q Rs As i).2.2.1))::(HP2++(HB2++H))):=by
 have hil:=(List.getElem?_eq_some_iff.1 hA).1
 refine qd (l:=[.pointer (some ⟨tb,2+i*4,none⟩),zp b2,zp b3]) Tryz.func257 rfl Tryz.ntmps257 rfl rfl ?_
 refine za 5 rfl ?_
 refine qf (v:=zp tb) rfl Y3 rfl (qh.own (b:=b2) zM rfl) rfl ?_
 refine qf (v:=zi (i:Int)) rfl ty3 rfl (qh.own (b:=b3) zM rfl) rfl ?_
 refine qB (zc2 rfl rfl) Tryz.call157 rfl (qcX (bb:=bb) (As:=As) (Ws:=Ws) (HBk:=HBk) (id:=(i:Int)) hP hn (fun p hp=>List.mem_cons_of_mem _ (List.mem_cons_of_mem _ (qmH hp)))) ?_
 rcases hir:inR Rs (i:Int) with _ | cx
 ·skip
  rw [show JY none=.tuple #[zi 0,.bool false] from rfl]
  refine za 12 rfl ?_
  refine qf (v:=zp tb) rfl Y3 rfl (qh.own (b:=b2) zM rfl) rfl ?_
  refine qf (v:=zi (i:Int)) rfl ty3 rfl (qh.own (b:=b3) zM rfl) rfl ?_
  refine qn (zc2 rfl rfl) Tryz.call91 rfl ((qgR (z:=(i:Int)) hP hB hn (As:=As) (H:=(b2,.cells 55 1 [zp tb])::(b3,.cells 3 1 [zi (i:Int)])::H)).hsub zH) ?_
  rintro v H' ⟨HP2,HB2,hP2,hB2,rfl,rfl⟩
  refine za 3 rfl ?_
  refine zb (l:=Q6 QK) Jh pl153 .nil rfl rfl rfl ?_
  refine qbB rfl rfl ?_
  refine qp (l':=zc pb bb (As.set i QK)) rfl rfl Jh rfl rfl (b:=tb) zM (by show 2+i*4+4≤(zc pb bb As).length; rw [qd1]; omega) (qmo (o':=QK) hil) zU ?_
  refine za 4 rfl ?_
  refine qj (H2:=(b2,.cells 55 1 [zp tb])::(b3,.cells 3 1 [zi (i:Int)])::(tb,.cells 170 1026 (zc pb bb (As.set i QK)))::(HP2++(HB2++H))) Tryz.results257 rfl (.nil _) zH ?_
  rw [qgc hir]
  exact ⟨HP2,HB2,hP2,hB2,rfl,rfl⟩
 ·skip
  rw [show JY (some cx)=.tuple #[zi cx,.bool true] from rfl]
  refine za 13 rfl ?_
  refine qj (H2:=(b2,.cells 55 1 [zp tb])::(b3,.cells 3 1 [zi (i:Int)])::(tb,.cells 170 1026 (zc pb bb As))::(HP++(HBk++H))) Tryz.results257 rfl (.nil _) zH ?_
  rw [qdI hir]
  exact ⟨HP,HBk,hP,hB,rfl,rfl⟩
theorem qjW (hP:z6 pb n Q Rs HP) (hB:QJ bb Ws HBk) (hn:Ws.length=n∧n≤64) (hi:i<256) (hA:As[i]?=some o) :qk Tryz.prog w0 161 #[zp tb,zi (i:Int)] ((tb,.cells 170 1026 (zc pb bb As))::(HP++(HBk++H))) (fun v H'=>∃ HP2 HB2,z6 pb n (Qu Ws Q Rs As i).2.1 Rs HP2∧QJ bb (Qu Ws Q Rs As i).1 HB2∧v=zi (Qu Ws Q Rs As i).2.2.2∧H'=(tb,.cells 170 1026 (zc pb bb (Qu Ws Q Rs As i).2.2.1))::(HP2++(HB2++H))):=by
 refine qd (l:=[zp tb,zi (i:Int)]) Tryz.func161 rfl Tryz.ntmps161 rfl rfl ?_
 refine zo ?_
 refine qR (l:=[zp tb]) rfl rfl rfl (fun b2=>?_)
 refine qR (l:=[zi (i:Int)]) rfl rfl rfl (fun b3=>?_)
 refine za 3 rfl ?_
 refine qf (v:=zp tb) rfl Y3 rfl (qh.own (b:=b2) zM rfl) rfl ?_
 refine qf (v:=zi (i:Int)) rfl ty3 rfl (qh.own (b:=b3) zM rfl) rfl ?_
 refine qL .nil (.cons rfl (.cons rfl .nil)) rfl ?_
 refine qn (zc3 rfl rfl rfl) Tryz.call165 rfl ((qaB (i:=i) (fi:=257) (ca:=[zp b2,zp b3]) Tryz.call257 hi (qjq (b2:=b2) (b3:=b3) hP hB hn hA (H:=H)) ?_).hsub zH) ?_
 ·rintro v H2 ⟨_,_,_,_,e,_⟩
  exact ⟨_,e⟩
 rintro v H' ⟨HP2,HB2,hP2,hB2,rfl,rfl⟩
 refine za 2 rfl ?_
 refine qj (H2:=(tb,.cells 170 1026 (zc pb bb (Qu Ws Q Rs As i).2.2.1))::(HP2++(HB2++H))) Tryz.results161 rfl (.nil _) zH ?_
 exact ⟨HP2,HB2,hP2,hB2,rfl,rfl⟩
theorem qgq (hi:¬ (0≤id∧id<256)):Zu Tryz.prog (fun _=>True) 161 [zp tb,zi id] (zi 2):=by
 intro w0 H hT
 refine qd Tryz.func161 rfl Tryz.ntmps161 rfl rfl (zo ?_)
 refine qR (l:=[zp tb]) rfl rfl rfl (fun b2=>?_)
 refine qR (l:=[zi id]) rfl rfl rfl (fun b3=>?_)
 refine za 3 rfl ?_
 refine qf (v:=zp tb) rfl Y3 rfl (qh.own (b:=b2) zM rfl) rfl ?_
 refine qf (v:=zi id) rfl ty3 rfl (qh.own (b:=b3) zM rfl) rfl ?_
 refine qL .nil (.cons rfl (.cons rfl .nil)) rfl ?_
 refine zI (zc3 rfl rfl rfl) Tryz.call165 rfl (T:=fun _=>True) trivial (qaP hi ) ?_
 refine za 2 rfl ?_
 refine qj (H2:=H) Tryz.results161 rfl (.nil _) zH ?_
 exact ⟨rfl,rfl⟩
theorem qf9 (h:TOk T Ws As):TOk T (Qu Ws Q Rs As i).1 (Qu Ws Q Rs As i).2.2.1:=by
 unfold Qu
 split
 ·exact h
 ·refine ⟨h.bank.del _,fun x hx=>?_⟩
  rcases List.mem_or_eq_of_mem_set hx with hx | rfl
  ·exact h.starts x hx
  ·show 0≤(0:Int)∧(0:Int)≤(T:Int); omega
theorem qjp (h:X0 As):X0 (Qu Ws Q Rs As i).2.2.1:=by
 unfold Qu
 split
 ·exact h
 ·exact h.set i (o:=QK) zd
theorem qga:(Qu Ws Q Rs As i).1.length=Ws.length:=by
 unfold Qu
 split
 ·rfl
 ·exact List.length_map _
theorem qaL (hT:J8 tb n Ws Q Rs As HB) (hO:TOk T Ws As) :
  qk Tryz.prog w0 161 #[zp tb,zi id] (HB++H) (fun v H'=>∃ HB',J8 tb n (zJ Ws Q Rs As id).1 (zJ Ws Q Rs As id).2.1 Rs (zJ Ws Q Rs As id).2.2.1 HB'∧TOk T (zJ Ws Q Rs As id).1 (zJ Ws Q Rs As id).2.2.1∧v=zi (zJ Ws Q Rs As id).2.2.2∧H'=HB'++H):=by
 by_cases hi:0≤id∧id<256
 ·obtain ⟨i,rfl⟩:∃ i:Nat,id=(i:Int):=⟨id.toNat,by omega⟩
  rw [qgd (by omega)]
  cases hT with
  | @mk pb bb HP HBk hP hB hA hn =>
   obtain ⟨o,ho⟩:=hA.at (i:=i) zO
   show qk _ _ _ _ ((tb,.cells 170 1026 (zc pb bb As))::((HP++HBk)++H)) _
   rw [List.append_assoc]
   refine (qjW (H:=H) hP hB hn zO ho).mono ?_
   rintro v H' ⟨HP2,HB2,hP2,hB2,rfl,rfl⟩
   exact ⟨_,.mk hP2 hB2 (qjp hA) (by rw [qga]; exact hn),qf9 hO,rfl,by show _=(tb,.cells 170 1026 (zc pb bb (Qu Ws Q Rs As i).2.2.1))::((HP2++HB2)++H); rw [List.append_assoc]⟩
 ·have e:zJ Ws Q Rs As id=(Ws,Q,As,2):=if_neg hi
  rw [e]
  refine (qgq hi w0 _ trivial).mono ?_
  rintro v H' ⟨rfl,rfl⟩
  exact ⟨HB,hT,hO,rfl,rfl⟩
theorem of1_L (hA:As[i]?=some o) (hm:(tb,.cells 170 1026 (zc pb bb As))∈H) :qk Tryz.prog w0 185 #[.pointer (some ⟨tb,2+i*4,none⟩),zp b5] ((b5,.cells 153 4 (Q6 QK))::H) (fun v H'=>v=zi 0∧H'=(b5,.cells 153 4 (Q6 o))::H):=by
 refine qd (l:=[.pointer (some ⟨tb,2+i*4,none⟩),zp b5]) Tryz.func185 rfl Tryz.ntmps185 rfl rfl ?_
 refine za 6 rfl ?_
 refine qK (vs:=Q6 o) rfl Jh rfl (b:=tb) (List.mem_cons_of_mem _ hm) (by show Nat.ble (2+i*4+4) (zc pb bb As).length=true; rw [qd1,Nat.ble_eq]; have:=(List.getElem?_eq_some_iff.1 hA).1; omega) (qj7 hA) rfl ?_
 refine qp (l':=Q6 o) rfl rfl Jh rfl rfl (b:=b5) zM (by exact Nat.le_refl 4) rfl zU ?_
 refine za 4 rfl ?_
 refine qj (H2:=(b5,.cells 153 4 (Q6 o))::H) Tryz.results185 rfl (.nil _) zH ?_
 exact ⟨rfl,rfl⟩
theorem of_at (hi:i<256) (hA:As[i]?=some o) (hm:(tb,.cells 170 1026 (zc pb bb As))∈H) :qG Tryz.prog w0 H 97 [zp tb,zi (i:Int)] (.agg (Q6 o).toArray):=by
 refine qd Tryz.func97 rfl Tryz.ntmps97 rfl rfl (zo ?_)
 refine qA (l:=Q6 QK) Jh rfl rfl (fun b4=>?_)
 refine za 2 rfl ?_
 refine qA (l:=Q6 QK) Jh rfl rfl (fun b5=>?_)
 refine za 4 rfl (qL .nil (.cons rfl .nil) rfl ?_)
 refine qn (zc3 rfl rfl rfl) Tryz.call165 rfl ((qaB (i:=i) (fi:=185) (ca:=[zp b5]) Tryz.call185 hi (of1_L (b5:=b5) hA (by repeat (first | exact hm | exact List.mem_cons_self | apply List.mem_cons_of_mem | apply List.mem_append_right)) (H:=(b4,.cells 153 4 (Q6 QK))::H)) ?_).hsub zH) ?_
 ·rintro v H2 ⟨e,_⟩
  exact ⟨_,e⟩
 rintro v H' ⟨rfl,rfl⟩
 refine za 2 rfl ?_
 refine qK (vs:=Q6 o) rfl Jh rfl (b:=b5) zM rfl rfl rfl ?_
 refine qp (l':=Q6 o) rfl rfl Jh rfl rfl (b:=b4) zM (by exact Nat.le_refl 4) rfl zU ?_
 refine qs ?_
 refine ZZ (H2:=H) Tryz.results97 rfl (.nil _) Jh rfl zM rfl zH ?_
 exact ⟨rfl,rfl⟩
theorem qmE (hi:¬ (0≤id∧id<256)):Zu Tryz.prog (fun _=>True) 97 [zp tb,zi id] (.agg (Q6 QK).toArray):=by
 intro w0 H hT
 refine qd Tryz.func97 rfl Tryz.ntmps97 rfl rfl (zo ?_)
 refine qA (l:=Q6 QK) Jh rfl rfl (fun b4=>?_)
 refine za 2 rfl ?_
 refine qA (l:=Q6 QK) Jh rfl rfl (fun b5=>?_)
 refine za 4 rfl (qL .nil (.cons rfl .nil) rfl ?_)
 refine zI (zc3 rfl rfl rfl) Tryz.call165 rfl (T:=fun _=>True) trivial (qaP hi ) ?_
 refine za 2 rfl ?_
 refine qK (vs:=Q6 QK) rfl Jh rfl (b:=b5) zM rfl rfl rfl ?_
 refine qp (l':=Q6 QK) rfl rfl Jh rfl rfl (b:=b4) zM (by exact Nat.le_refl 4) rfl zU ?_
 refine qs ?_
 refine ZZ (H2:=H) Tryz.results97 rfl (.nil _) Jh rfl zM rfl zH ?_
 exact ⟨rfl,rfl⟩
def ofA (As:List Jd) (id:Int):Jd:=if 0≤id∧id<256 then As.getD id.toNat QK else QK
theorem qhn (hi:i<256) (h:As[i]?=some o):ofA As (i:Int)=o:=by
 unfold ofA; rw [if_pos (by omega),show ((i:Nat):Int).toNat=i by omega,List.getD_eq_getElem?_getD,h]; rfl
theorem qeV (h:¬ (0≤id∧id<256)):ofA As id=QK:=if_neg h
theorem tof_q (hA:X0 As) (hm:(tb,.cells 170 1026 (zc pb bb As))∈H) :qG Tryz.prog w0 H 97 [zp tb,zi id] (.agg (Q6 (ofA As id)).toArray):=by
 by_cases hi:0≤id∧id<256
 ·obtain ⟨i,rfl⟩:∃ i:Nat,id=(i:Int):=⟨id.toNat,by omega⟩
  obtain ⟨o,ho⟩:=hA.at (i:=i) zO
  rw [qhn (by omega) ho]
  exact of_at zO ho hm
 ·rw [qeV hi]
  exact (qmE hi).at trivial
theorem qkD (h:X0 As) (id:Int):0≤(ofA As id).prog∧(ofA As id).prog≤16:=by
 by_cases hi:0≤id∧id<256
 ·obtain ⟨i,rfl⟩:∃ i:Nat,id=(i:Int):=⟨id.toNat,by omega⟩
  obtain ⟨o,ho⟩:=h.at (i:=i) zO
  rw [qhn (by omega) ho]
  exact h.rng o (List.mem_of_getElem? ho)
 ·rw [qeV hi]; decide
theorem qnj (hA:X0 As) (hm:(tb,.cells 170 1026 (zc pb bb As))∈H) :qG Tryz.prog w0 H 78 [zp tb,zi id] (.tuple #[zi (max ((ofA As id).prog-1) 0),.bool (decide (0<(ofA As id).prog))]):=by
 have hpr:=qkD hA id
 refine qd Tryz.func78 rfl Tryz.ntmps78 rfl rfl (za 7 rfl ?_)
 refine qB (zc2 rfl rfl) Tryz.call97 rfl (tof_q (id:=id) hA (by repeat (first | exact hm | exact List.mem_cons_self | apply List.mem_cons_of_mem | apply List.mem_append_right))) ?_
 refine qA (l:=Q6 QK) Jh rfl rfl (fun b6=>?_)
 refine qp (l':=Q6 (ofA As id)) rfl rfl Jh rfl rfl (b:=b6) zM (by exact Nat.le_refl 4) rfl zU ?_
 refine qs (zB zk zK (zq 1 rfl ?_))
 refine qC (ql (v:=zi ((ofA As id)).prog) rfl ty3 rfl (qh.own (b:=b6) zM rfl)) rfl ?_
 refine qC (QQ rfl rfl (ZY (m:=((ofA As id)).prog-1) (qW zO))) rfl ?_
 refine qC (qjM rfl rfl (m:=max (((ofA As id)).prog-1) 0) (by split <;> omega)) rfl ?_
 refine zq 1 rfl ?_
 refine qC (ql (v:=zi ((ofA As id)).prog) rfl ty3 rfl (qh.own (b:=b6) zM rfl)) rfl ?_
 refine zq 3 rfl (z4 ?_)
 refine qP (H2:=H) Tryz.results78 rfl rfl (.nil _) zH ?_
 exact ⟨rfl,rfl⟩
set_option maxRecDepth 100000
theorem qka (hn:1≤n∧n≤64) :qk Tryz.prog w0 105 #[zi (n:Int),zu ((now:Nat):Int)] (H) (fun v H'=>∃ tb Ws HB,v=.tuple #[zp tb,zi 0]∧J8 tb n Ws [] [] (List.replicate 256 QK) HB∧Ws.length=n∧(∀ w∈Ws,XY now w)∧H'=HB++H):=by
 refine qd (l:=[zi (n:Int),zu ((now:Nat):Int)]) Tryz.func105 rfl Tryz.ntmps105 rfl rfl ?_
 refine za 6 rfl (qn (zc1 rfl) Tryz.call195 rfl (qhj hn) ?_)
 rintro v H' ⟨pb,HP,rfl,hP,rfl⟩
 refine za 16 rfl ?_
 refine qn (zc2 rfl rfl) Tryz.call196 rfl (qnm (now:=now) hn) ?_
 rintro v H' ⟨bb,Ws,HBk,rfl,hB,hWl,hfr,rfl⟩
 refine za 16 rfl ?_
 refine zb (l:=zc pb bb (List.replicate 256 QK)) ty170 pl170 (.cons rfl rfl rfl rfl rfl (.cons rfl rfl rfl rfl rfl .nil)) rfl zk rfl ?_
 refine qR (l:=zc pb bb (List.replicate 256 QK)) rfl rfl rfl (fun b29=>?_)
 refine za 3 rfl ?_
 refine qP (H2:=(b29,.cells 170 1026 (zc pb bb (List.replicate 256 QK)))::(HP++(HBk++H))) Tryz.results105 rfl rfl (.nil _) zH ?_
 exact ⟨b29,Ws,(b29,.cells 170 1026 (zc pb bb (List.replicate 256 QK)))::(HP++HBk),rfl,.mk hP hB ⟨List.length_replicate,fun o ho=>by rw [List.eq_of_mem_replicate ho]; decide⟩ ⟨hWl,hn.2⟩,hWl,hfr,by show _=(b29,.cells 170 1026 (zc pb bb (List.replicate 256 QK)))::((HP++HBk)++H); rw [List.append_assoc]⟩
theorem qj8 (hT:J8 tb n Ws Q Rs As HB) (hm:∀ p∈HB,p∈H) :qG Tryz.prog w0 H 157 [zp tb,zi id] (JY (inR Rs id)):=by
 cases hT with
 | @mk pb bb HP HBk hP hB hA hn=>exact qcX (bb:=bb) (As:=As) hP hn hm
theorem qj9 (hT:J8 tb n Ws Q Rs As HB) (hm:∀ p∈HB,p∈H) :qG Tryz.prog w0 H 78 [zp tb,zi id] (.tuple #[zi (max ((ofA As id).prog-1) 0),.bool (decide (0<(ofA As id).prog))]):=by
 cases hT with
 | @mk pb bb HP HBk hP hB hA hn=>exact qnj hA (hm _ List.mem_cons_self)
theorem tok0 (hn:now≤18446744073709551615) (hf:∀ w∈Ws,XY now w):TOk 0 Ws (List.replicate 256 QK):=⟨BOk.start hn hf,fun o ho=>by rw [List.eq_of_mem_replicate ho]; decide⟩
end Go.Proofs.YtincjohoncljoaaGreatDoor
