/-
  Own work: contracts of functions that the statement reaches, and plain facts on what they compute; each theorem says its conditions.
-/
import Derived.Test.YtincjohoncljoaaGreatDoorLqT4
import Derived.Test.YtincjohoncljoaaGreatDoorLqS2
import Derived.Test.YtincjohoncljoaaGreatDoorLqS3
import Derived.Test.YtincjohoncljoaaGreatDoorShelf
import Derived.Test.YtincjohoncljoaaGreatDoorLqS1
import Derived.Test.YtincjohoncljoaaGreatDoorLqA
set_option linter.all false
set_option linter.unusedSimpArgs false
set_option linter.unusedVariables false
set_option maxHeartbeats 16000000
namespace Go.Proofs.YtincjohoncljoaaGreatDoor
open Go Go.Sl
variable {e:TypeId} {s n bw bm turn c z cap at_ b2 tot a nw k bb:Nat} {xs sl:List Value} {HB H HW:qg} {w0:World} {bs:List Nat} {l:List Int} {id cpu:Int} {L Li O:List Tm} {XS:List qg} {ad:Option Addr} {t:Tm}
attribute [local irreducible] W
theorem zm.is {v:Value} (h:zm e s v n xs HB) (hn:0<n):∃ b cap,v=.slice (some ⟨b,0,none⟩) n cap∧HB=[(b,.cells e (cap*s) xs)]∧n≤cap∧cap≤maxLen:=by
 cases h with
 | nil=>omega
 | own _ h2 h3=>exact ⟨_,_,rfl,rfl,h2,h3⟩
theorem qlB {now:Nat} {l:Qk Int} (hok:Zy sl bs) (hv:(Ye l id).getD Xa=Xa) (hh:Z3 l id=false) :qh Tryz.prog w0 357 #[zp bw,zi id] ((bw,.cells 406 523 (q9 now sl bs bm turn))::(bm,.obj (qM (Value.int .i64) l c))::H) (fun v H'=>v=.bool false∧H'=(bw,.cells 406 523 (q9 now sl bs bm turn))::(bm,.obj (qM (Value.int .i64) l c))::H):=by
 refine qc (l:=[zp bw,zi id]) Tryz.func357 rfl Tryz.ntmps357 rfl rfl ?_
 refine ze ?_
 refine qK (l:=[zi id]) rfl rfl rfl (fun b3=>?_)
 refine za 3 rfl ?_
 refine qO (H':=(b3,.cells 3 1 [zi id])::(bw,.cells 406 523 (q9 now sl bs bm turn))::(bm,.obj (qM (Value.int .i64) l c))::H) (.refl _) ?_
 refine W_anyC [(b3,.cells 3 1 [zi id]),(bw,.cells 406 523 (q9 now sl bs bm turn)),(bm,.obj (qM (Value.int .i64) l c))] zk ?_
 refine zw [0,1,2] rfl rfl ?_
 refine WC_take 3 rfl zK zK zK rfl rfl (qj (v:=.map (some bm)) rfl ZY rfl (qf.own (b:=bw) zM (Y5 hok))) rfl ?_
 refine WC_take 4 rfl zK zK zK rfl rfl (qj (v:=zi id) rfl ty3 rfl (qf.own (b:=b3) zM rfl)) rfl ?_
 refine WC_take 5 rfl zK zK zK rfl rfl (YM (b:=bm) (a:=id) (zE:=Xa) rfl rfl qc3 ZY zEz zM) rfl ?_
 simp only [if_true]
 rw [hv,hh]
 refine zw [6,7,8] rfl rfl ?_
 refine WC_one 9 zH zK rfl rfl ?_
 refine qp (l:=[zi 0,zi 0,zu 0,zu 0,zi 0]) XZ rfl rfl (fun b5=>?_)
 refine qs (WC_goal ?_)
 refine WC_one 10 zH zK rfl rfl ?_
 refine ql (l':=[zi 0,zi 0,zu 0,zu 0,zi 0]) rfl rfl XZ rfl rfl (b:=b5) zM (by exact Nat.le_refl 5) rfl zU ?_
 refine qs (WC_goal (zw [11] rfl rfl (WC_done zH zK (za 9 rfl ?_))))
 refine qd (H2:=(bw,.cells 406 523 (q9 now sl bs bm turn))::(bm,.obj (qM (Value.int .i64) l c))::H) Tryz.results357 rfl (.nil _) zH ?_
 exact ⟨rfl,rfl⟩
theorem qpT {now tn:Nat} {l:Qk Int} {e:Qu} {v0:Value} {X:qg} (hok:Zy sl bs) (hmap:QP l c) (hv:(Ye l id).getD Xa=.agg (e.v++[Value.int .i64 ((tn:Nat):Int)]).toArray) (hh:Z3 l id=true) (hsp:e.lv<8∧e.slot<64) (hz:bs[e.lv]?=some z) (hz2:z<18446744073709551616) (hlen:(zv L (e.lv*64+e.slot)).length≤256) (hpos:0<(zv L (e.lv*64+e.slot)).length) (hsl:sl[(e.lv*64+e.slot)]?=some v0) (hX:XS[(e.lv*64+e.slot)]?=some X) (hO:zm 3 1 v0 (zv L (e.lv*64+e.slot)).length ((zv L (e.lv*64+e.slot)).map (Value.int .i64)) X) :qh Tryz.prog w0 357 #[zp bw,zi id] ((bw,.cells 406 523 (q9 now sl bs bm turn))::(bm,.obj (qM (Value.int .i64) l c))::(XS.flatten++H)) (fun v H'=>∃ b cap,v=.bool true∧(Zv (zv L (e.lv*64+e.slot)) id).length≤cap∧cap≤maxLen∧H'=(bw,.cells 406 523 (q9 now (sl.set (e.lv*64+e.slot) (Value.slice (some ⟨b,0,none⟩) (Zv (zv L (e.lv*64+e.slot)) id).length cap)) (if (Zv (zv L (e.lv*64+e.slot)) id).length=0 then (bs.set e.lv (ZQ z [(e.slot:Int)])) else bs) bm turn))::(bm,.obj (qM (Value.int .i64) (Yo l id) c))::((b,.cells 3 (cap*1) (((Zv (zv L (e.lv*64+e.slot)) id)).map (Value.int .i64)))::((XS.set (e.lv*64+e.slot) []).flatten++H))):=by
 obtain ⟨b,cap,hv0,hXe,hcap,hmax⟩:=zm.is hO hpos
 have hok2:∀ v,Zy (sl.set (e.lv*64+e.slot) v) bs:=fun v=>hok.setSl _ v
 have hok3:∀ v,Zy (sl.set (e.lv*64+e.slot) v) (bs.set e.lv (ZQ z [(e.slot:Int)])):=fun v=>(hok.setSl _ v).setBs _ _
 have hdl:=qnZ (zv L (e.lv*64+e.slot)) id
 refine qc (l:=[zp bw,zi id]) Tryz.func357 rfl Tryz.ntmps357 rfl rfl ?_
 refine ze ?_
 refine qK (l:=[zi id]) rfl rfl rfl (fun b3=>?_)
 refine za 3 rfl ?_
 refine W_anyC [(b3,.cells 3 1 [zi id]),(bw,.cells 406 523 (q9 now sl bs bm turn)),(bm,.obj (qM (Value.int .i64) l c))] zk ?_
 refine zw [0,1,2] rfl rfl ?_
 refine WC_take 3 rfl zK zK zK rfl rfl (qj (v:=.map (some bm)) rfl ZY rfl (qf.own (b:=bw) zM (Y5 hok))) rfl ?_
 refine WC_take 4 rfl zK zK zK rfl rfl (qj (v:=zi id) rfl ty3 rfl (qf.own (b:=b3) zM rfl)) rfl ?_
 refine WC_take 5 rfl zK zK zK rfl rfl (YM (b:=bm) (a:=id) (zE:=Xa) rfl rfl qc3 ZY zEz zM) rfl ?_
 simp only [if_true]
 rw [hv,hh]
 refine zw [6,7,8] rfl rfl ?_
 refine WC_one 9 zH zK rfl rfl ?_
 refine qp (l:=[zi 0,zi 0,zu 0,zu 0,zi 0]) XZ rfl rfl (fun b5=>?_)
 refine qs (WC_goal ?_)
 refine WC_one 10 zH zK rfl rfl ?_
 refine ql (l':=(e.v++[Value.int .i64 ((tn:Nat):Int)])) rfl rfl XZ rfl rfl (b:=b5) zM (by exact Nat.le_refl 5) rfl zU ?_
 refine qs (WC_goal (zw [11] rfl rfl (WC_done zH zK (za 9 rfl ?_))))
 refine qJ (vs:=e.v) rfl zj rfl (b:=b5) zM rfl rfl rfl ?_
 refine qp (l:=qN.v) zj rfl rfl (fun b7=>?_)
 refine ql (l':=e.v) rfl rfl zj rfl rfl (b:=b7) zM (by exact Nat.le_refl 4) rfl zU ?_
 refine za 2 rfl ?_
 refine qO (.cons (.here _) (.cons (.here _) (.cons (.here _) (.cons (.here _) (.cons (.here _) (qe5 hX)))))) ?_
 subst hv0 hXe
 refine qO (H':=(b,.cells 3 (cap*1) (((zv L (e.lv*64+e.slot))).map (Value.int .i64)))::(b7,.cells 71 4 e.v)::(b5,.cells 408 5 (e.v++[Value.int .i64 ((tn:Nat):Int)]))::(b3,.cells 3 1 [zi id])::(bw,.cells 406 523 (q9 now sl bs bm turn))::(bm,.obj (qM (Value.int .i64) l c))::((XS.set (e.lv*64+e.slot) []).flatten++H)) zH ?_
 refine W_anyC [(b3,.cells 3 1 [zi id]),(b7,.cells 71 4 e.v),(bw,.cells 406 523 (q9 now sl bs bm turn))] zk ?_
 refine zw [0,1] rfl rfl ?_
 refine WC_take 2 rfl zK zK zK rfl rfl (qj (v:=zi (e.lv:Int)) rfl ty3 rfl (qf.own (b:=b7) zM rfl)) rfl ?_
 refine zw [3] rfl rfl ?_
 refine WC_take 4 rfl zK zK zK rfl rfl (qj (v:=zi (e.slot:Int)) rfl ty3 rfl (qf.own (b:=b7) zM rfl)) rfl ?_
 refine zw [5,6] rfl rfl ?_
 refine WC_take 7 rfl zK zK zK rfl rfl (z8 (j:=e.lv) rfl rfl qc8 KU rfl hsp.1 (at_:=1+e.lv*64) zO) rfl ?_
 refine WC_take 8 rfl zK zK zK rfl rfl (z8 (j:=e.slot) rfl rfl KU qZ rfl hsp.2 (at_:=1+(e.lv*64+e.slot)) zO) rfl ?_
 refine WC_take 9 rfl zK zK zK rfl rfl (qj (v:=.slice (some ⟨b,0,none⟩) (zv L (e.lv*64+e.slot)).length cap) rfl qZ rfl (qf.own (b:=bw) zM (qiJ hok hsl))) rfl ?_
 refine WC_take 10 rfl zK zK zK rfl rfl (qgg .nil (.cons rfl .nil)) rfl ?_
 refine WC_one 11 zH zK rfl rfl ?_
 refine qk (zc2 rfl rfl) Tryz.call406 rfl ((qly (l:=(zv L (e.lv*64+e.slot))) (id:=id) (bd:=b3) (b:=b) (tot:=cap*1) (cap:=cap) (H:=(b7,.cells 71 4 e.v)::(b5,.cells 408 5 (e.v++[Value.int .i64 ((tn:Nat):Int)]))::(b3,.cells 3 1 [zi id])::(bw,.cells 406 523 (q9 now sl bs bm turn))::(bm,.obj (qM (Value.int .i64) l c))::((XS.set (e.lv*64+e.slot) []).flatten++H)) zO hcap zM).hsub zH) ?_
 rintro v H' ⟨rfl,rfl⟩
 refine qs (WC_goal (zw [12] rfl rfl (WC_done zH zK (Kv ?_))))
 refine W_anyS [(b7,.cells 71 4 e.v),(bw,.cells 406 523 (q9 now sl bs bm turn))] 10 zk ?_
 refine WS_take 0 rfl rfl zK zK zK zK rfl rfl (zf rfl) rfl ?_
 refine WS_take 1 rfl rfl zK zK zK zK rfl rfl (qF rfl Yq zd) rfl ?_
 refine WS_take 2 rfl rfl zK zK zK zK rfl rfl (qj (v:=zi (e.lv:Int)) rfl ty3 rfl (qf.own (b:=b7) zM rfl)) rfl ?_
 refine WS_take 3 rfl rfl zK zK zK zK rfl rfl (qF rfl XF zd) rfl ?_
 refine WS_take 4 rfl rfl zK zK zK zK rfl rfl (qj (v:=zi (e.slot:Int)) rfl ty3 rfl (qf.own (b:=b7) zM rfl)) rfl ?_
 refine WS_take 5 rfl rfl zK zK zK zK rfl rfl (zf rfl) rfl ?_
 refine Qj 6 rfl rfl zK zK zK rfl rfl (qY rfl) rfl ?_
 refine Qj 7 rfl rfl zK zK zK rfl rfl (qF rfl Kl zd) rfl ?_
 refine Qj 8 rfl rfl zK zK zK rfl rfl (z8 (j:=e.lv) rfl rfl qc8 KU rfl hsp.1 (at_:=1+e.lv*64) zO) rfl ?_
 refine WS_take 9 rfl rfl zK zK zK zK rfl rfl (z8 (j:=e.slot) rfl rfl KU qZ rfl hsp.2 (at_:=1+(e.lv*64+e.slot)) zO) rfl ?_
 refine WS_last zH zK rfl rfl ?_
 refine qv (l':=q9 now (sl.set (e.lv*64+e.slot) (Value.slice (some ⟨b,0,none⟩) (Zv (zv L (e.lv*64+e.slot)) id).length cap)) bs bm turn) rfl rfl qZ rfl rfl (b:=bw) zM (by rw [qaQ hok,Nat.blt_eq]; omega) (qel hok (by omega)) zU ?_
 refine qs (WC_goal (WC_done (.nil _) zK (za 3 rfl (zZ rfl qZ rfl rfl (za 2 rfl ?_)))))
 refine qm (p:=(Zv (zv L (e.lv*64+e.slot)) id).length=0) rfl (by rw [decide_eq_true_eq]; omega) (fun q0=>?_) (fun q0=>?_)
 ·skip
  refine W_anyS [(b7,.cells 71 4 e.v),(bw,.cells 406 523 (q9 now (sl.set (e.lv*64+e.slot) (Value.slice (some ⟨b,0,none⟩) (Zv (zv L (e.lv*64+e.slot)) id).length cap)) bs bm turn))] 17 zk ?_
  refine WS_take 0 rfl rfl zK zK zK zK rfl rfl (zf rfl) rfl ?_
  refine WS_take 1 rfl rfl zK zK zK zK rfl rfl (qF rfl Yq zd) rfl ?_
  refine WS_take 2 rfl rfl zK zK zK zK rfl rfl (qj (v:=zi (e.lv:Int)) rfl ty3 rfl (qf.own (b:=b7) zM rfl)) rfl ?_
  refine WS_take 3 rfl rfl zK zK zK zK rfl rfl (zf rfl) rfl ?_
  refine WS_take 4 rfl rfl zK zK zK zK rfl rfl (qF rfl Yq zd) rfl ?_
  refine WS_take 5 rfl rfl zK zK zK zK rfl rfl (qj (v:=zi (e.lv:Int)) rfl ty3 rfl (qf.own (b:=b7) zM rfl)) rfl ?_
  refine WS_take 6 rfl rfl zK zK zK zK rfl rfl (qY rfl) rfl ?_
  refine WS_take 7 rfl rfl zK zK zK zK rfl rfl (qF rfl Kk zd) rfl ?_
  refine WS_take 8 rfl rfl zK zK zK zK rfl rfl (z8 (j:=e.lv) rfl rfl qc7 Qa rfl hsp.1 (at_:=513+e.lv) zO) rfl ?_
  refine WS_take 9 rfl rfl zK zK zK zK rfl rfl (qj (v:=zu (z:Int)) rfl Qa rfl (qf.own (b:=bw) zM (qiK (hok2 _) hz))) rfl ?_
  refine WS_take 10 rfl rfl zK zK zK zK rfl rfl (qF rfl XF zd) rfl ?_
  refine WS_take 11 rfl rfl zK zK zK zK rfl rfl (qj (v:=zi (e.slot:Int)) rfl ty3 rfl (qf.own (b:=b7) zM rfl)) rfl ?_
  refine Qj 14 rfl rfl zK zK zK rfl rfl (qY rfl) rfl ?_
  refine Qj 15 rfl rfl zK zK zK rfl rfl (qF rfl Kk zd) rfl ?_
  refine WS_one 12 zH rfl zK rfl rfl ?_
  refine qy qZ ty3 (.cons rfl rfl rfl rfl rfl .nil) rfl rfl rfl rfl rfl rfl rfl (fun b59=>?_)
  refine qs ?_
  refine WS_goal ?_
  refine WS_one 13 zH rfl zK rfl rfl ?_
  refine qn (zc2 rfl rfl) Tryz.call141 rfl (qch (l:=[(e.slot:Int)]) hz2 (show 1≤4611686018427387904 by decide) (Holds.own (b:=b59) zM)) ?_
  refine qs ?_
  refine WS_goal ?_
  refine WS_take 16 rfl rfl zK zK zK zK rfl rfl (z8 (j:=e.lv) rfl rfl qc7 Qa rfl hsp.1 (at_:=513+e.lv) zO) rfl ?_
  refine WS_last zH zK rfl rfl ?_
  refine qv (l':=q9 now (sl.set (e.lv*64+e.slot) (Value.slice (some ⟨b,0,none⟩) (Zv (zv L (e.lv*64+e.slot)) id).length cap)) (bs.set e.lv (ZQ z [(e.slot:Int)])) bm turn) rfl rfl Qa rfl rfl (b:=bw) zM (by rw [qaQ (hok2 _),Nat.blt_eq]; omega) (qem (hok2 _) hsp.1) zU ?_
  refine qs (WC_goal (WC_done (.nil _) zK (Kv ?_)))
  refine W_anyC [(b3,.cells 3 1 [zi id]),(bw,.cells 406 523 (q9 now (sl.set (e.lv*64+e.slot) (Value.slice (some ⟨b,0,none⟩) (Zv (zv L (e.lv*64+e.slot)) id).length cap)) (bs.set e.lv (ZQ z [(e.slot:Int)])) bm turn))] zk ?_
  refine zw [0,1,2] rfl rfl ?_
  refine WC_take 3 rfl zK zK zK rfl rfl (qj (v:=.map (some bm)) rfl ZY rfl (qf.own (b:=bw) zM (Y5 (hok3 _)))) rfl ?_
  refine WC_take 4 rfl zK zK zK rfl rfl (qj (v:=zi id) rfl ty3 rfl (qf.own (b:=b3) zM rfl)) rfl ?_
  refine WC_one 5 zH zK rfl rfl ?_
  refine J7 (a:=id) (b:=bm) rfl rfl qc3 ZY hmap zU rfl ?_
  refine qs (WC_goal (WC_done zH zK (za 3 rfl ?_)))
  refine qd (H2:=(bw,.cells 406 523 (q9 now (sl.set (e.lv*64+e.slot) (Value.slice (some ⟨b,0,none⟩) (Zv (zv L (e.lv*64+e.slot)) id).length cap)) (bs.set e.lv (ZQ z [(e.slot:Int)])) bm turn))::(bm,.obj (qM (Value.int .i64) (Yo l id) c))::((b,.cells 3 (cap*1) (((Zv (zv L (e.lv*64+e.slot)) id)).map (Value.int .i64)))::((XS.set (e.lv*64+e.slot) []).flatten++H))) Tryz.results357 rfl (.nil _) zH ?_
  exact ⟨b,cap,rfl,by omega,hmax,by rw [if_pos q0]⟩
 ·skip
  refine za 2 rfl ?_
  refine W_anyC [(b3,.cells 3 1 [zi id]),(bw,.cells 406 523 (q9 now (sl.set (e.lv*64+e.slot) (Value.slice (some ⟨b,0,none⟩) (Zv (zv L (e.lv*64+e.slot)) id).length cap)) bs bm turn))] zk ?_
  refine zw [0,1,2] rfl rfl ?_
  refine WC_take 3 rfl zK zK zK rfl rfl (qj (v:=.map (some bm)) rfl ZY rfl (qf.own (b:=bw) zM (Y5 (hok2 _)))) rfl ?_
  refine WC_take 4 rfl zK zK zK rfl rfl (qj (v:=zi id) rfl ty3 rfl (qf.own (b:=b3) zM rfl)) rfl ?_
  refine WC_one 5 zH zK rfl rfl ?_
  refine J7 (a:=id) (b:=bm) rfl rfl qc3 ZY hmap zU rfl ?_
  refine qs (WC_goal (WC_done zH zK (za 3 rfl ?_)))
  refine qd (H2:=(bw,.cells 406 523 (q9 now (sl.set (e.lv*64+e.slot) (Value.slice (some ⟨b,0,none⟩) (Zv (zv L (e.lv*64+e.slot)) id).length cap)) bs bm turn))::(bm,.obj (qM (Value.int .i64) (Yo l id) c))::((b,.cells 3 (cap*1) (((Zv (zv L (e.lv*64+e.slot)) id)).map (Value.int .i64)))::((XS.set (e.lv*64+e.slot) []).flatten++H))) Tryz.results357 rfl (.nil _) zH ?_
  exact ⟨b,cap,rfl,by omega,hmax,by rw [if_neg q0]⟩
theorem qh.sub {P:Program} {f:FuncId} {args:Array Value} {R R':Value→qg→Prop} (h:qh P w0 f args H R) (hr:∀ v H',R v H'→∃ H2,qC H' H2∧R' v H2):qh P w0 f args H R' :=
 fun w hs=>(h w hs).mono fun _ _ ⟨v,H',e,r,s⟩=>by
  obtain ⟨H2,h1,h2⟩:=hr _ _ r
  exact ⟨v,H2,e,h2,s.hsub h1⟩
theorem qlE (h:id ∉ L.map (·.id)):Ys L id=L:=by
 unfold Ys
 rw [List.filter_eq_self]
 exact fun t ht=>decide_eq_true (fun e=>h (e ▸ List.mem_map_of_mem ht))
def ZH (L:List Tm) (id:Int):Bool:=L.any (fun t=>decide (t.id=id))
theorem Jk:ZH L id=true↔id∈L.map (·.id):=by
 unfold ZH
 rw [List.any_eq_true,List.mem_map]
 exact ⟨fun ⟨t,h,e⟩=>⟨t,h,of_decide_eq_true e⟩,fun ⟨t,h,e⟩=>⟨t,h,decide_eq_true e⟩⟩
theorem del_L {now:Nat} (hW:zP bw now L turn HW) :
  qh Tryz.prog w0 357 #[zp bw,zi id] (HW++H) (fun v H'=>∃ HW',zP bw now (Ys L id) turn HW'∧v=.bool (ZH L id)∧H'=HW'++H):=by
 cases hW with
 | @mk bm c sl XS bs l h =>
  by_cases hin:id∈L.map (·.id)
  ·obtain ⟨t,ht,rfl⟩:=List.mem_map.1 hin
   obtain ⟨hv,hh⟩:=h.hit ht
   have hs:=h.spot t ht
   obtain ⟨v0,X,hsl,hX,hO⟩:=h.own (t.s.lv*64+t.s.slot) zO
   obtain ⟨z,hz,hz2,_⟩:=h.busy t.s.lv hs.1
   have hlen:=Nat.le_trans (KI L (t.s.lv*64+t.s.slot)) h.len
   have hpos:0<(zv L (t.s.lv*64+t.s.slot)).length:=List.length_pos_of_mem (Jj.2 ⟨t,ht,rfl,rfl⟩)
   have hcell:∀ (b cap:Nat),(Zv (zv L t.key) t.id).length≤cap→cap≤maxLen→zm 3 1 (.slice (some ⟨b,0,none⟩) (Zv (zv L t.key) t.id).length cap) (Zv (zv L t.key) t.id).length ((Zv (zv L t.key) t.id).map (Value.int .i64)) [(b,.cells 3 (cap*1) ((Zv (zv L t.key) t.id).map (Value.int .i64)))]:=fun b cap h1 h2=>.own (by rw [List.length_map,Nat.mul_one]) h1 h2
   refine qh.sub (qpT (H:=H) h.row h.map hv hh hs hz hz2 hlen hpos hsl hX hO) ?_
   rintro v H' ⟨b,cap,rfl,hcap,hmax,rfl⟩
   refine ⟨_,?_,_,.mk (bm:=bm) (h.del ht (hcell b cap hcap hmax) hz rfl),by rw [Jk.2 hin],rfl⟩
   exact .cons (.here _) (.cons (.here _) (qgU (B:=[_]) (by rw [h.xs]; omega)))
  ·obtain ⟨hv,hh⟩:=h.miss hin
   refine (qlB (H:=XS.flatten++H) h.row hv hh).mono ?_
   rintro v H' ⟨rfl,rfl⟩
   refine ⟨_,by rw [qlE hin]; exact .mk (bm:=bm) h,?_,rfl⟩
   cases hb:ZH L id with
   | false=>rfl
   | true=>exact absurd (Jk.1 hb) hin
def QO (L:List Tm) (l:List Int):List Tm × Nat:=l.foldl (fun s id=>(Ys s.1 id,s.2+if ZH s.1 id=true then 1 else 0)) (L,0)
theorem qe8 {i:Nat} {x:Int} (h:l[i]?=some x):QO L (l.take (i+1))=(Ys (QO L (l.take i)).1 x,(QO L (l.take i)).2+if ZH (QO L (l.take i)).1 x=true then 1 else 0):=by
 unfold QO
 rw [Jt h,List.foldl_append]; rfl
theorem qcJ (L:List Tm) (l:List Int):∀ i,i≤l.length→(QO L (l.take i)).2≤i
 | 0,_=>by simp [QO]
 | i+1,h=>by
  obtain ⟨x,hx⟩:∃ x,l[i]?=some x:=⟨_,List.getElem?_eq_getElem zO⟩
  have:=qcJ L l i zO
  rw [qe8 hx]
  dsimp only
  split <;> omega
theorem qo0 {now:Nat} (hW:zP bw now L turn HW) (hn:l.length≤4611686018427387904) (hrow:Holds w0 H ad (l.map (Value.int .i64))) :qh Tryz.prog w0 264 #[zp bw,.slice ad l.length cap] (HW++H) (fun v H'=>∃ HW',zP bw now (QO L l).1 turn HW'∧v=zi ((QO L l).2:Int)∧H'=HW'++H):=by
 refine qc (l:=[zp bw,.slice ad l.length cap]) Tryz.func264 rfl Tryz.ntmps264 rfl rfl ?_
 refine za 9 rfl (zZ rfl qZ rfl rfl (za 3 rfl ?_))
 refine qU (X:=(Nat × qg)) [(0,_),(8,_),(9,_)] (fun (x:(Nat × qg))=>[(5,zi ((QO L (l.take x.1)).2:Int)),(10,zi (x.1:Int))]) (fun _=>_) (fun (x:(Nat × qg))=>x.2++H) (fun (x:(Nat × qg))=>x.1≤l.length∧zP bw now (QO L (l.take x.1)).1 turn x.2) (fun (x:(Nat × qg))=>l.length-x.1) (0,HW) ⟨Nat.zero_le _,hW⟩ (qa rfl (qa rfl (qa rfl (qi _)))) (qa rfl (qa rfl (qi _))) rfl (.refl _) ?_
 rintro ⟨i,HWi⟩ ⟨hi,hWi⟩
 dsimp only at hi hWi ⊢
 simp only [List.cons_append,List.nil_append]
 refine za 4 rfl ?_
 refine qm (p:=(i:Int)<(l.length:Int)) rfl (by simp) (fun q0=>?_) (fun q0=>?_)
 ·skip
  refine za 4 rfl ?_
  obtain ⟨x,hx⟩:∃ x,l[i]?=some x:=⟨_,List.getElem?_eq_getElem zO⟩
  obtain ⟨q0,p0,rfl,hc⟩:=hrow.at (i:=i) (v:=.int .i64 x) (by rw [List.getElem?_map,hx]; rfl)
  have hat:=qe8 (L:=L) hx
  have hle:=qcJ L l i zO
  refine qS (j:=i) rfl rfl qZ ty3 rfl zO rfl rfl ?_
  refine qe (v:=zi x) rfl ty3 rfl (by rw [Nat.mul_one (i)]; exact hc.up zH) rfl ?_
  refine za 4 rfl ?_
  refine W_x (zz rfl rfl Ze) (fun _ h=>by cases h) rfl ?_
  refine za 6 rfl ?_
  refine qk (zc2 rfl rfl) Tryz.call357 rfl (del_L (id:=x) hWi) ?_
  rintro v H' ⟨HW',hW',rfl,rfl⟩
  rcases hb:ZH (QO L (l.take i)).1 x with _ | _
  ·skip
   have hn2:(QO L (l.take i)).2=(QO L (l.take (i+1))).2:=by rw [hat,hb]; rfl
   rw [hn2]
   refine za 6 rfl ?_
   refine qE rfl rfl (qQ (m:=((i+1:Nat):Int)) (by rw [zg (by omega)]; omega)) rfl ?_
   refine za 2 rfl ?_
   refine qP (i+1,HW') ⟨by show i+1≤l.length; omega,by show zP bw now (QO L (l.take (i+1))).1 turn HW'; rw [hat]; exact hW'⟩ (by show l.length-(i+1)<l.length-i; omega) (qa rfl (qa rfl (qa rfl (qa rfl (qa rfl (qi _)))))) rfl (.refl _)
  ·skip
   have hn2:(QO L (l.take i)).2+1=(QO L (l.take (i+1))).2:=by rw [hat,hb]; rfl
   refine za 5 rfl ?_
   refine qE rfl rfl (qQ (m:=((QO L (l.take (i+1))).2:Int)) (by rw [zg (by omega)]; omega)) rfl ?_
   refine za 4 rfl ?_
   refine qE rfl rfl (qQ (m:=((i+1:Nat):Int)) (by rw [zg (by omega)]; omega)) rfl ?_
   refine za 2 rfl ?_
   refine qP (i+1,HW') ⟨by show i+1≤l.length; omega,by show zP bw now (QO L (l.take (i+1))).1 turn HW'; rw [hat]; exact hW'⟩ (by show l.length-(i+1)<l.length-i; omega) (qa rfl (qa rfl (qa rfl (qa rfl (qa rfl (qi _)))))) rfl (.refl _)
 ·skip
  refine za 5 rfl (qd Tryz.results264 rfl (.nil _) (.refl _) ?_)
  obtain rfl:i=l.length:=by omega
  rw [List.take_length] at hWi ⊢
  exact ⟨HWi,hWi,rfl,rfl⟩
theorem qhq {x y:Nat} (hx:x*8 ^ n<18446744073709551615+8 ^ n) (hy:y*8 ^ n<18446744073709551615+8 ^ n) (e:Zg x n=Zg y n):x=y:=by
 have key:∀ {a b:Nat},a*8 ^ n<18446744073709551615+8 ^ n→18446744073709551615/8 ^ n<a→¬ 18446744073709551615/8 ^ n<b→18446744073709551615=b*8 ^ n→False:=fun {a b} h1 h2 h3 h4=>by
  cases n with
  | zero=>simp at h1 h2; omega
  | succ m =>
   rw [Nat.pow_succ,← Nat.mul_assoc] at h4
   generalize b*8 ^ m=q at h4
   omega
 have hg:0<8 ^ n:=Nat.pow_pos zO
 have cut:∀ {a:Nat},a*8 ^ n<18446744073709551615+8 ^ n→18446744073709551615/8 ^ n<a→a=18446744073709551615/8 ^ n+1:=fun {a} h1 h2=>by
  have h3:=Nat.div_add_mod 18446744073709551615 (8 ^ n)
  have h4:=Nat.mod_lt 18446744073709551615 hg
  rw [Nat.mul_comm] at h3
  generalize 18446744073709551615/8 ^ n=k at *
  generalize 8 ^ n=g at *
  have h5:a<k+2:=Nat.lt_of_mul_lt_mul_right (a:=g) (by rw [Nat.add_mul]; omega)
  omega
 unfold Zg at e
 by_cases c1:18446744073709551615/8 ^ n<x <;> by_cases c2:18446744073709551615/8 ^ n<y
 ·rw [cut hx c1,cut hy c2]
 ·rw [if_pos c1,if_neg c2] at e
  exact (key hx c1 c2 e).elim
 ·rw [if_neg c1,if_pos c2] at e
  exact (key hy c2 c1 e.symm).elim
 ·rw [if_neg c1,if_neg c2] at e
  exact Nat.eq_of_mul_eq_mul_right hg e
theorem qbc {p q r:Tm→Bool}:∀ (L:List Tm),(∀ t∈L,(r t=true↔p t=true∨q t=true)∧¬ (p t=true∧q t=true))→(L.filter p++L.filter q).Perm (L.filter r)
 | [],_=>.nil
 | t::L,h=>by
  have ih:=qbc L (fun u hu=>h u (List.mem_cons_of_mem _ hu))
  obtain ⟨h1,h2⟩:=h t List.mem_cons_self
  cases hp:p t <;> cases hq:q t
  ·rw [List.filter_cons_of_neg (by simp [hp]),List.filter_cons_of_neg (by simp [hq]),List.filter_cons_of_neg (by rw [h1,hp,hq]; simp)]; exact ih
  ·rw [List.filter_cons_of_neg (by simp [hp]),List.filter_cons_of_pos hq,List.filter_cons_of_pos (h1.2 (.inr hq))]
   exact List.perm_middle.trans (ih.cons _)
  ·rw [List.filter_cons_of_pos hp,List.filter_cons_of_neg (by simp [hq]),List.filter_cons_of_pos (h1.2 (.inl hp)),List.cons_append]
   exact ih.cons _
  ·exact absurd ⟨hp,hq⟩ h2
def duL (now at_:Nat) (bs:List Nat) (L:List Tm):Nat→List Int
 | 0=>[]
 | n+1=>match bs[n]? with
  | none=>duL now at_ bs L n
  | some z=>match zN z ((Z4 now n:Nat):Int) with
   | none=>duL now at_ bs L n
   | some s=>if Q8 now n s=at_ then duL now at_ bs L n++zv L (n*64+s) else duL now at_ bs L n
theorem qgY {now:Nat} (hz:bs[n]?=some z) (ha:zN z ((Z4 now n:Nat):Int)=none):duL now at_ bs L (n+1)=duL now at_ bs L n:=by
 show (match bs[n]? with | none=>_ | some z=>_)=_
 rw [hz]; dsimp only; rw [ha]
theorem qgX {now:Nat} (hz:bs[n]?=some z) (ha:zN z ((Z4 now n:Nat):Int)=some s):duL now at_ bs L (n+1)=if Q8 now n s=at_ then duL now at_ bs L n++zv L (n*64+s) else duL now at_ bs L n:=by
 show (match bs[n]? with | none=>_ | some z=>_)=_
 rw [hz]; dsimp only; rw [ha]
section
variable {now turn c at_:Nat} {L:List Tm} {sl:List Value} {XS:List qg} {bs:List Nat} {l:Qk Int}
theorem QZ.dueOf (h:QZ now L sl XS bs l c turn) (hnow:now≤18446744073709551615) {u:Tm} (hu:u∈L):u.s.due=Q8 now u.s.lv u.s.slot:=by
 obtain ⟨num,m1,m2,m3,m4,_⟩:=h.time u hu
 rw [m2,qgz hnow m3 m4 m1.symm]
theorem QZ.sameSlot (h:QZ now L sl XS bs l c turn) {u:Tm} (ht:t∈L) (hu:u∈L) (el:t.s.lv=u.s.lv) (ed:t.s.due=u.s.due):t.s.slot=u.s.slot:=by
 obtain ⟨n1,a1,a2,a3,a4,a5⟩:=h.time t ht
 obtain ⟨n2,b1,b2,b3,b4,b5⟩:=h.time u hu
 rw [a2,b2,el] at ed
 rw [el] at a5
 rw [a1,b1,qhq a5 b5 ed]
theorem QZ.around (h:QZ now L sl XS bs l c turn) (hn:n<8) (hnow:now≤18446744073709551615) (hz:bs[n]?=some z) (ha:zN z ((Z4 now n:Nat):Int)=some s) :
  ∃ t∈L,t.s.lv=n∧t.s.slot=s∧t.s.due=Q8 now n s:=by
 obtain ⟨z',hz',_,hz3⟩:=h.busy n hn
 obtain rfl:z=z':=Option.some.inj (hz.symm.trans hz')
 have hx:now/8 ^ n≤18446744073709551615:=Nat.le_trans (Nat.div_le_self _ _) hnow
 obtain ⟨g1,g2,_⟩:=XI hx ha
 obtain ⟨id,hid⟩:∃ id,id∈zv L (n*64+s):=List.exists_mem_of_ne_nil _ ((hz3 s g1).1 g2)
 obtain ⟨t,ht,hk,_⟩:=Jj.1 hid
 have hsp:=h.spot t ht
 have hk2:t.s.lv*64+t.s.slot=n*64+s:=hk
 have hlv:t.s.lv=n:=by omega
 have hsl:t.s.slot=s:=by omega
 exact ⟨t,ht,hlv,hsl,by rw [h.dueOf hnow ht,hlv,hsl]⟩
theorem QZ.noneAt (h:QZ now L sl XS bs l c turn) (hn:n<8) (hz:bs[n]?=some z) (ha:zN z ((Z4 now n:Nat):Int)=none):∀ t∈L,t.s.lv≠n:=fun t ht e=>by
 obtain ⟨z',hz',_,hz3⟩:=h.busy n hn
 obtain rfl:z=z':=Option.some.inj (hz.symm.trans hz')
 subst e
 have h1:=qbx ha t.s.slot (h.spot t ht).2
 have h2:=(hz3 t.s.slot (h.spot t ht).2).2 (fun e=>by have:=Jj.2 ⟨t,ht,rfl,rfl⟩; rw [show t.key=t.s.lv*64+t.s.slot from rfl,e] at this; cases this)
 rw [h1] at h2; cases h2
theorem QZ.leastAt (h:QZ now L sl XS bs l c turn) (hn:n<8) (hnow:now≤18446744073709551615) (hz:bs[n]?=some z) (ha:zN z ((Z4 now n:Nat):Int)=some s):∀ u∈L,u.s.lv=n→Q8 now n s≤u.s.due:=fun u hu e=>by
 obtain ⟨z',hz',_,hz3⟩:=h.busy n hn
 obtain rfl:z=z':=Option.some.inj (hz.symm.trans hz')
 have hx:now/8 ^ n≤18446744073709551615:=Nat.le_trans (Nat.div_le_self _ _) hnow
 obtain ⟨g1,g2,g3⟩:=XI hx ha
 rw [h.dueOf hnow hu,e]
 have hm:=g3 u.s.slot (h.spot u hu).2 ((e ▸ hz3 u.s.slot (h.spot u hu).2).2 (fun e2=>by have:=Jj.2 ⟨u,hu,rfl,rfl⟩; rw [show u.key=u.s.lv*64+u.s.slot from rfl,e2] at this; cases this))
 unfold Q8
 have hmo:=qb2 (n:=n) (Nat.add_le_add_left hm (now/8 ^ n))
 have hle:=qb3 (now/8 ^ n+Yk (now/8 ^ n) s) n
 split <;> split <;> omega
theorem qgZ (h:QZ now L sl XS bs l c turn) (hnow:now≤18446744073709551615) (hat:∀ t∈L,at_≤t.s.due):∀ n,n≤8→(duL now at_ bs L n).Perm ((L.filter (fun t=>decide (t.s.lv<n) && decide (t.s.due=at_))).map (·.id))
 | 0,_=>by
  rw [List.filter_eq_nil_iff.2 (fun t _=>by simp)]
  exact .nil
 | n+1,hn=>by
  have ih:=qgZ h hnow hat n zO
  obtain ⟨z,hz,_,_⟩:=h.busy n zO
  have same:(∀ t∈L,t.s.lv=n→t.s.due≠at_)→L.filter (fun t=>decide (t.s.lv<n+1) && decide (t.s.due=at_))=L.filter (fun t=>decide (t.s.lv<n) && decide (t.s.due=at_)):=fun hno=>by
   refine List.filter_congr fun t ht=>?_
   have:=hno t ht
   by_cases e:t.s.lv=n
   ·rw [decide_eq_false (this e),Bool.and_false,Bool.and_false]
   ·rw [show decide (t.s.lv<n+1)=decide (t.s.lv<n) from decide_eq_decide.2 (by omega)]
  cases ha:zN z ((Z4 now n:Nat):Int) with
  | none =>
   rw [qgY hz ha,same (fun t ht e=>absurd e (h.noneAt (by omega) hz ha t ht))]
   exact ih
  | some s =>
   rw [qgX hz ha]
   obtain ⟨t0,ht0,e1,e2,e3⟩:=h.around zO hnow hz ha
   by_cases ct:Q8 now n s=at_
   ·rw [if_pos ct]
    have hk:zv L (n*64+s)=(L.filter (fun t=>decide (t.s.lv=n) && decide (t.s.due=at_))).map (·.id):=by
     unfold zv
     congr 1
     refine List.filter_congr fun t ht=>?_
     have hsp:=h.spot t ht
     have hs64:=(h.spot t0 ht0).2
     rw [← Bool.decide_and]
     refine decide_eq_decide.2 ⟨fun hk=>?_,fun ⟨h1,h2⟩=>?_⟩
     ·have hk2:t.s.lv*64+t.s.slot=n*64+s:=hk
      have l1:t.s.lv=n:=by omega
      have l2:t.s.slot=s:=by omega
      exact ⟨l1,by rw [h.dueOf hnow ht,l1,l2,ct]⟩
     ·have:=h.sameSlot ht ht0 (by rw [h1,e1]) (by rw [h2,e3,ct])
      show t.s.lv*64+t.s.slot=_
      rw [h1,this,e2]
    rw [hk]
    refine (ih.append_right _).trans ?_
    rw [← List.map_append]
    refine List.Perm.map _ (qbc L fun t ht=>⟨?_,?_⟩)
    ·simp only [Bool.and_eq_true,decide_eq_true_eq]; omega
    ·simp only [Bool.and_eq_true,decide_eq_true_eq]; omega
   ·rw [if_neg ct,same (fun t ht e ed=>ct ?_)]
    ·exact ih
    ·have l1:=h.leastAt zO hnow hz ha t ht e
     have l2:=hat t0 ht0
     rw [e3] at l2; omega
def Z7 (L:List Tm) (at_:Nat):List Tm:=L.filter (fun t=>decide (t.s.due=at_))
theorem qpS (h:QZ now L sl XS bs l c turn) (hnow:now≤18446744073709551615) (hat:∀ t∈L,at_≤t.s.due):(duL now at_ bs L 8).Perm ((Z7 L at_).map (·.id)):=by
 refine (qgZ h hnow hat 8 (Nat.le_refl _)).trans ?_
 unfold Z7
 rw [List.filter_congr (q:=fun t=>decide (t.s.due=at_)) fun t ht=>by rw [decide_eq_true (h.spot t ht).1,Bool.true_and]]
def tvN (L:List Tm) (id:Int):Nat:=match L.find? (fun t=>decide (t.id=id)) with
 | some t=>t.turn
 | none=>0
theorem qfv (h:(L.map (·.id)).Nodup) (ht:t∈L):tvN L t.id=t.turn:=by
 unfold tvN
 cases hf:L.find? (fun u=>decide (u.id=t.id)) with
 | none =>
  have:=List.find?_eq_none.1 hf t ht
  exact absurd (decide_eq_true rfl) this
 | some u =>
  have h1:=List.find?_some hf
  obtain rfl:u=t:=KB h (List.mem_of_find?_eq_some hf) ht (of_decide_eq_true h1)
  rfl
theorem QZ.ent (h:QZ now L sl XS bs l c turn) (id:Int):∃ e:Qu,(Ye l id).getD Xa=.agg (e.v++[Value.int .i64 (((tvN L id):Nat):Int)]).toArray:=by
 by_cases hin:id∈L.map (·.id)
 ·obtain ⟨t,ht,rfl⟩:=List.mem_map.1 hin
  exact ⟨t.s,by rw [(h.hit ht).1,qfv h.nodup ht]⟩
 ·refine ⟨qN,?_⟩
  rw [(h.miss hin).1]
  have:tvN L id=0:=by
   unfold tvN
   cases hf:L.find? (fun u=>decide (u.id=id)) with
   | none=>rfl
   | some u =>
    have h1:=List.find?_some hf
    have h2:u.id=id:=of_decide_eq_true h1
    exact absurd (h2 ▸ List.mem_map_of_mem (List.mem_of_find?_eq_some hf)) hin
  rw [this]; rfl
end
theorem qcP {K:Type} {τ:K→Nat}:∀ {a b:List K},a.Perm b→a.Pairwise (fun x y=>τ x < τ y)→b.Pairwise (fun x y=>τ x < τ y)→a=b
 | [],b,hp,_,_=>(List.Perm.nil_eq hp)
 | x::a,b,hp,ha,hb=>by
  cases b with
  | nil=>exact absurd hp.length_eq (by simp)
  | cons y b =>
   have ha':=List.pairwise_cons.1 ha
   have hb':=List.pairwise_cons.1 hb
   have hxy:x=y:=by
    rcases List.mem_cons.1 (hp.mem_iff.1 List.mem_cons_self) with h | h
    ·exact h
    ·rcases List.mem_cons.1 (hp.mem_iff.2 List.mem_cons_self) with h' | h'
     ·exact h'.symm
     ·have:=hb'.1 x h; have:=ha'.1 y h'; omega
   subst hxy
   rw [qcP (List.Perm.cons_inv hp) ha'.2 hb'.2]
theorem qn8 {K:Type} {m:List K} {τ:K→Nat} (h:m.Pairwise (fun x y=>τ x < τ y)) {x y:K} (hx:x∈m) (hy:y∈m) (e:τ x=τ y):x=y:=by
 obtain ⟨i,hi,rfl⟩:=List.getElem_of_mem hx
 obtain ⟨j,hj,rfl⟩:=List.getElem_of_mem hy
 have hp:=List.pairwise_iff_getElem.1 h
 rcases Nat.lt_trichotomy i j with hij | rfl | hij
 ·have:=hp i j hi hj hij; omega
 ·rfl
 ·have:=hp j i hj hi hij; omega
open Go.Proofs in
theorem qht {K:Type} {m d:List K} {τ:K→Nat} (hp:d.Perm m) (hn:m.Nodup) (h:m.Pairwise (fun x y=>τ x < τ y))
  (hs:∀ (i j:Nat) x y,i<j→d[i]?=some x→d[j]?=some y→ltOf (fun x y=>Lib.compareInt (τ x:Int) (τ y:Int)) y x=false):d=m:=by
 refine qcP hp (List.pairwise_iff_getElem.2 fun i j hi hj hij=>?_) h
 have h1:=qjG _ (hs i j _ _ hij (List.getElem?_eq_getElem hi) (List.getElem?_eq_getElem hj))
 have mi:d[i]∈m:=hp.mem_iff.1 (List.getElem_mem hi)
 have mj:d[j]∈m:=hp.mem_iff.1 (List.getElem_mem hj)
 have hne:τ d[i]≠τ d[j]:=fun e=>by
  have:=qn8 h mi mj e
  exact (List.pairwise_iff_getElem.1 (hp.nodup_iff.2 hn)) i j hi hj hij this
 omega
theorem QZ.dueAsc {now:Nat} {l:Qk Int} (h:QZ now L sl XS bs l c turn) (at_:Nat):((Z7 L at_).map (·.id)).Nodup∧((Z7 L at_).map (·.id)).Pairwise (fun x y=>tvN L x<tvN L y):=by
 refine ⟨h.nodup.sublist (List.Sublist.map _ List.filter_sublist),?_⟩
 rw [List.pairwise_map]
 have h1:(Z7 L at_).Pairwise (fun a b=>a.turn<b.turn):=h.turns.sublist List.filter_sublist
 refine (List.pairwise_iff_getElem.2 fun i j hi hj hij=>?_)
 have h2:=List.pairwise_iff_getElem.1 h1 i j hi hj hij
 rw [qfv h.nodup (List.mem_filter.1 (List.getElem_mem hi)).1,qfv h.nodup (List.mem_filter.1 (List.getElem_mem hj)).1]
 exact h2
open Go.Proofs
theorem qic {now:Nat} {l:Qk Int} (h:QZ now L sl XS bs l c turn) {C:World→Prop} (hC:∀ w,C w→C w.drew) (hCS:∀ w,C w→Sat w0 ((b2,.cells 276 1 [zp bw])::(bw,.cells 406 523 (q9 now sl bs bm turn))::(bm,.obj (qM (Value.int .i64) l c))::H) w) (x y:Int) :
  ∀ w,C w→CallsIn Fence.wide 0 Tryz.prog 364 [(Value.int .i64) x,(Value.int .i64) y,zp b2].toArray w fun e w'=>e=.returned (zi (Lib.compareInt (tvN L x:Int) (tvN L y:Int)))∧C w':=by
 obtain ⟨ex,hx⟩:=h.ent x
 obtain ⟨ey,hy⟩:=h.ent y
 refine qhh Tryz.func364 rfl Tryz.ntmps364 rfl rfl rfl zk zK hC ?_
 refine JD (Ex.mono hCS (qj (v:=zp bw) rfl Ze rfl (qf.own (b:=b2) zM rfl))) rfl ?_
 refine JD (Ex.mono hCS (qY rfl)) rfl ?_
 refine JD (Ex.mono hCS (qF rfl qcy zd)) rfl ?_
 refine JD (Ex.mono hCS (qj (v:=.map (some bm)) rfl ZY rfl (qf.own (b:=bw) zM (Y5 h.row)))) rfl ?_
 refine JD (Ex.mono hCS (zf rfl)) rfl ?_
 refine JD (Ex.mono hCS (YM (b:=bm) (a:=x) (zE:=Xa) rfl rfl qc3 ZY zEz zM)) rfl ?_
 simp only [Bool.false_eq_true,if_false]
 rw [hx]
 refine JD (Ex.mono hCS (qg6 rfl qe3 rfl)) rfl ?_
 refine JD (Ex.mono hCS (qj (v:=zp bw) rfl Ze rfl (qf.own (b:=b2) zM rfl))) rfl ?_
 refine JD (Ex.mono hCS (qY rfl)) rfl ?_
 refine JD (Ex.mono hCS (qF rfl qcy zd)) rfl ?_
 refine JD (Ex.mono hCS (qj (v:=.map (some bm)) rfl ZY rfl (qf.own (b:=bw) zM (Y5 h.row)))) rfl ?_
 refine JD (Ex.mono hCS (zf rfl)) rfl ?_
 refine JD (Ex.mono hCS (YM (b:=bm) (a:=y) (zE:=Xa) rfl rfl qc3 ZY zEz zM)) rfl ?_
 simp only [Bool.false_eq_true,if_false]
 rw [hy]
 refine JD (Ex.mono hCS (qg6 rfl qe3 rfl)) rfl ?_
 refine qhe (.cons rfl (.cons rfl .nil)) Tryz.call313 rfl (fun w _=>Tryz.cmp_Compare_int (tvN L x:Int) (tvN L y:Int) w) ?_
 refine JD (Ex.mono hCS (qcU rfl)) rfl ?_
 exact qmg Tryz.results364 rfl
open Go.Proofs in
theorem qpa {now:Nat} {l:Qk Int} (h:QZ now L sl XS bs l c turn) {b:Nat} {d:List Int} (hd:d.length<4611686018427387904) :
  qh Tryz.prog w0 363 #[.slice (some ⟨b,0,none⟩) d.length cap,.func (.func 364) #[] #[zp b2]] ((b,.cells 3 tot (d.map (Value.int .i64)))::(b2,.cells 276 1 [zp bw])::(bw,.cells 406 523 (q9 now sl bs bm turn))::(bm,.obj (qM (Value.int .i64) l c))::H)
   (fun v H'=>v=.tuple #[]∧∃ d':List Int,d'.Perm d∧(∀ (i j:Nat) x y,i<j→d'[i]?=some x→d'[j]?=some y→ltOf (fun x y=>Lib.compareInt (tvN L x:Int) (tvN L y:Int)) y x=false)∧H'=(b,.cells 3 tot (d'.map (Value.int .i64)))::(b2,.cells 276 1 [zp bw])::(bw,.cells 406 523 (q9 now sl bs bm turn))::(bm,.obj (qM (Value.int .i64) l c))::H) :=
 qmo fun w hs=>by
  have hlt:b<w.heap.size:=(hs.own _ List.mem_cons_self).2.lt
  have:=Tryz.slices_SortFunc_f363 (Value.int .i64) (fun _=>rfl) (fun x y=>Lib.compareInt (tvN L x:Int) (tvN L y:Int)) (qgB (fun x=>(tvN L x:Int))) 364 #[zp b2] b 0 cap d.toArray w Tryz.call364 (Go.Proofs.CmpReads.lays fun n os dk hdk x y=>by
   have hsz:dk.size=d.length:=by rw [hdk]; simp
   have hS:Sat w0 ((b,.cells 3 tot (dk.toList.map (Value.int .i64)))::(b2,.cells 276 1 [zp bw])::(bw,.cells 406 523 (q9 now sl bs bm turn))::(bm,.obj (qM (Value.int .i64) l c))::H) (sortWorld (Value.int .i64) w b 0 n dk os):=JS hs hsz
   have h:=qic (C:=fun w'=>∃ q,w'=(sortWorld (Value.int .i64) w b 0 n dk os).drewN q) h (fun w' ⟨q,e⟩=>⟨q+1,by rw [e]; rfl⟩) (fun w' ⟨q,e⟩=>by rw [e]; exact (hS.drewN q).drop) x y _ ⟨0,rfl⟩
   exact callsIn_wide.1 h) (qa5 hs) hlt (by simpa using hd)
  simpa using this
theorem qf7 {now at_:Nat} {bs:List Nat} {L:List Tm}:∀ n,(duL now at_ bs L n).length≤n*L.length
 | 0=>Nat.zero_le _
 | n+1=>by
  have ih:=qf7 (now:=now) (at_:=at_) (bs:=bs) (L:=L) n
  rw [Nat.add_mul]
  unfold duL
  split
  ·omega
  ·split
   ·omega
   ·split
    ·rw [List.length_append]
     rename_i s _ _
     have:=KI L (n*64+s)
     omega
    ·omega
theorem zm.holds (h:zm e s (.slice ad n cap) n xs HB) (hs:∀ p∈HB,p∈H):Holds w0 H ad xs:=by
 generalize hv:Value.slice ad n cap=v at h
 cases h with
 | nil=>exact Holds.nil
 | own _ _ _ =>
  obtain ⟨rfl,_⟩:ad=_∧True:=by simp at hv; exact ⟨hv.1,trivial⟩
  exact Holds.own (hs _ List.mem_cons_self)
theorem qpR {now:Nat} {l:Qk Int} (h:QZ now L sl XS bs l c turn) (hnow:now≤18446744073709551615) (hbs:∀ z∈bs,z<18446744073709551616) (hpos:0<(duL now at_ bs L 8).length) (hT:Tab w0):qh Tryz.prog w0 269 #[zp bw,zu ((at_:Nat):Int)] ((bw,.cells 406 523 (q9 now sl bs bm turn))::(bm,.obj (qM (Value.int .i64) l c))::(XS.flatten++H)) (fun v H'=>∃ (b cap:Nat) (d':List Int),v=.slice (some ⟨b,0,none⟩) d'.length cap∧d'.length≤cap∧cap≤maxLen∧d'.Perm (duL now at_ bs L 8)∧(∀ (i j:Nat) x y,i<j→d'[i]?=some x→d'[j]?=some y→ltOf (fun x y=>Lib.compareInt (tvN L x:Int) (tvN L y:Int)) y x=false)∧H'=(b,.cells 3 (cap*1) ((d').map (Value.int .i64)))::(bw,.cells 406 523 (q9 now sl bs bm turn))::(bm,.obj (qM (Value.int .i64) l c))::(XS.flatten++H)):=by
 have hlen0:=h.len
 have hdl0:=qf7 (now:=now) (at_:=at_) (bs:=bs) (L:=L) 8
 refine qc (l:=[zp bw,zu ((at_:Nat):Int)]) Tryz.func269 rfl Tryz.ntmps269 rfl rfl ?_
 refine ze ?_
 refine qK (l:=[zp bw]) rfl rfl rfl (fun b2=>?_)
 refine qK (l:=[zu (at_:Int)]) rfl rfl rfl (fun b3=>?_)
 refine za 3 rfl ?_
 refine qp (l:=[.slice none 0 0]) qZ rfl rfl (fun b5=>?_)
 refine za 3 rfl ?_
 refine qe (v:=zp bw) rfl Ze rfl (qf.own (b:=b2) zM rfl) rfl ?_
 refine qk (zc1 rfl) Tryz.call362 rfl (qjE (bw:=bw)) ?_
 rintro v H' ⟨b1,rfl,rfl⟩
 refine za 2 rfl (Qp rfl Tryz.call409 ?_)
 intro lp D r hst hpd hps hasg hbody hA
 have hr:=QC hst hpd
 show qh _ _ _ #[_,_] _ _
 refine ((qdj (b1:=b1) (bw:=bw) (bm:=bm) (now:=now) (turn:=turn) (sl:=sl) (bs:=bs) (H:=(lp,.obj (.loop r))::(D,.obj (.deferred (some [])))::(b5,.cells 63 1 [.slice none 0 0])::(b3,.cells 30 1 [.int .u64 (at_:Int)])::(b2,.cells 276 1 [zp bw])::([]++((bm,.obj (qM (Value.int .i64) l c))::(XS.flatten++H)))) hT h.row hnow hbs (fun n Hi=>∃ v X,zm 3 1 v (duL now at_ bs L n).length ((duL now at_ bs L n).map (Value.int .i64)) X∧Hi=(lp,.obj (.loop r))::(D,.obj (.deferred (some [])))::(b5,.cells 63 1 [v])::(b3,.cells 30 1 [.int .u64 (at_:Int)])::(b2,.cells 276 1 [zp bw])::(X++((bm,.obj (qM (Value.int .i64) l c))::(XS.flatten++H)))) (fun n z Hi _ hz ha hJ=>by obtain ⟨v,X,h1,h2⟩:=hJ; exact ⟨v,X,by rw [qgY hz ha]; exact h1,h2⟩) ?_ ⟨_,[],zm.nil,rfl⟩).hsub (show qC _ ((b1,.cells 276 1 [zp bw])::(bw,.cells 406 523 (q9 now sl bs bm turn))::(lp,.obj (.loop r))::(D,.obj (.deferred (some [])))::(b5,.cells 63 1 [.slice none 0 0])::(b3,.cells 30 1 [.int .u64 (at_:Int)])::(b2,.cells 276 1 [zp bw])::((bm,.obj (qM (Value.int .i64) l c))::(XS.flatten++H))) from zH)).mono ?_
 ·intro n s z Hi hn hz ha hJ
  obtain ⟨v,X,hO,rfl⟩:=hJ
  obtain ⟨t,ht⟩:∃ t,t=Q8 now n s:=⟨_,rfl⟩
  rw [← ht]
  have hs64:=(K5 ha).1
  have hstep:=qgX (now:=now) (at_:=at_) (L:=L) hz ha
  rw [← ht] at hstep
  refine Qo hst hpd hA hps rfl hasg rfl rfl rfl zT ?_
  refine ze ?_
  refine qp (l:=qN.v) zj rfl rfl (fun b6=>?_)
  refine ql (l':=[zi (n:Int),zi (s:Int),zu 0,zu 0]) rfl rfl zj rfl rfl (b:=b6) zM (by exact Nat.le_refl 4) rfl zU ?_
  refine za 4 rfl (Jf hst hpd zT hbody (za 3 rfl ?_))
  refine qe (v:=zu (at_:Int)) rfl zJ rfl (qf.own (b:=b3) zM rfl) rfl ?_
  refine za 2 rfl ?_
  refine qm (p:=t=at_) rfl (by rw [decide_eq_true_eq]; exact Int.ofNat_inj) (fun q0=>?_) (fun q0=>?_)
  ·skip
   obtain ⟨vs,Xs,hsl,hXs,hOs⟩:=h.own (n*64+s) zO
   obtain ⟨ads,caps,rfl,_,_⟩:=hOs.shape
   have hlen:=h.len
   have hil:=KI L (n*64+s)
   have hdl:=qf7 (now:=now) (at_:=at_) (bs:=bs) (L:=L) n
   have hn256:n*L.length≤8*256:=Nat.mul_le_mul zO hlen
   have hmem:∀ p∈Xs,p∈XS.flatten:=fun p hp=>List.mem_flatten.2 ⟨Xs,List.mem_of_getElem? hXs,hp⟩
   refine Rd.W_anyS [(b5,.cells 63 1 [v]),(b2,.cells 276 1 [zp bw]),(b6,.cells 71 4 [zi (n:Int),zi (s:Int),zu 0,zu 0]),(bw,.cells 406 523 (q9 now sl bs bm turn))] 12 zk ?_
   refine Rd.WS_take 0 (l':=#[true,false,false,false,false,false,false,false,false,false,false,false,false]) rfl rfl zK zK zK zK zK rfl zK (qj (v:=v) rfl qZ rfl (qf.own (b:=b5) zM rfl)) rfl ?_
   refine Rd.WS_take 1 (l':=#[true,true,false,false,false,false,false,false,false,false,false,false,false]) rfl rfl zK zK zK zK zK rfl zK (qj (v:=zp bw) rfl Ze rfl (qf.own (b:=b2) zM rfl)) rfl ?_
   refine Rd.WS_take 2 (l':=#[true,true,true,false,false,false,false,false,false,false,false,false,false]) rfl rfl zK zK zK zK zK rfl zK (qF rfl Yq zd) rfl ?_
   refine Rd.WS_take 3 (l':=#[true,true,true,true,false,false,false,false,false,false,false,false,false]) rfl rfl zK zK zK zK zK rfl zK (qj (v:=zi (n:Int)) rfl ty3 rfl (qf.own (b:=b6) zM rfl)) rfl ?_
   refine Rd.WS_take 4 (l':=#[true,true,true,true,true,false,false,false,false,false,false,false,false]) rfl rfl zK zK zK zK zK rfl zK (qF rfl XF zd) rfl ?_
   refine Rd.WS_take 5 (l':=#[true,true,true,true,true,true,false,false,false,false,false,false,false]) rfl rfl zK zK zK zK zK rfl zK (qj (v:=zi (s:Int)) rfl ty3 rfl (qf.own (b:=b6) zM rfl)) rfl ?_
   refine Rd.WS_take 6 (l':=#[true,true,true,true,true,true,true,false,false,false,false,false,false]) rfl rfl zK zK zK zK zK rfl zK (qY rfl) rfl ?_
   refine Rd.WS_take 7 (l':=#[true,true,true,true,true,true,true,true,false,false,false,false,false]) rfl rfl zK zK zK zK zK rfl zK (qF rfl Kl zd) rfl ?_
   refine Rd.WS_take 8 (l':=#[true,true,true,true,true,true,true,true,true,false,false,false,false]) rfl rfl zK zK zK zK zK rfl zK (z8 (j:=n) rfl rfl qc8 KU rfl hn (at_:=1+n*64) zO) rfl ?_
   refine Rd.WS_take 9 (l':=#[true,true,true,true,true,true,true,true,true,true,false,false,false]) rfl rfl zK zK zK zK zK rfl zK (z8 (j:=s) rfl rfl KU qZ rfl hs64 (at_:=1+(n*64+s)) zO) rfl ?_
   refine Rd.WS_take 10 (l':=#[true,true,true,true,true,true,true,true,true,true,true,false,false]) rfl rfl zK zK zK zK zK rfl zK (qj (v:=.slice ads (zv L (n*64+s)).length caps) rfl qZ rfl (qf.own (b:=bw) zM (qiJ h.row hsl))) rfl ?_
   refine Rd.WS_one 11 zH rfl zK rfl rfl ?_
   refine Qv (news:=(zv L (n*64+s)).map (Value.int .i64)) (m:=(zv L (n*64+s)).length) (HB:=X) (H0:=(lp,.obj (.loop (Loop.at r .busy none)))::(b6,.cells 71 4 [.int .i64 (n:Int),.int .i64 (s:Int),.int .u64 0,.int .u64 0])::(b1,.cells 276 1 [zp bw])::(bw,.cells 406 523 (q9 now sl bs bm turn))::(D,.obj (.deferred (some [])))::(b5,.cells 63 1 [v])::(b3,.cells 30 1 [.int .u64 (at_:Int)])::(b2,.cells 276 1 [zp bw])::((bm,.obj (qM (Value.int .i64) l c))::(XS.flatten++H))) rfl rfl qZ ty3 rfl (by decide) hO (by rw [List.length_map,Nat.mul_one]) (zm.holds hOs (fun p hp=>(by repeat (first | exact List.mem_append_left _ (hmem p hp) | exact List.mem_cons_self | apply List.mem_cons_of_mem | apply List.mem_append_right)))) (by rw [List.all_eq_true]; intro u hu; obtain ⟨q,_,rfl⟩:=List.mem_map.1 hu; rfl) (by simp only [maxLen]; omega) (by omega) zH rfl (fun v' X' hO'=>?_)
   refine qs ?_
   refine Rd.WS_goal ?_
   refine Rd.WS_last zH zK rfl rfl ?_
   have hv1:v'.oneCell'=true:=by obtain ⟨_,_,rfl,_⟩:=hO'.shape; rfl
   refine qv (l':=[v']) rfl rfl qZ hv1 rfl (b:=b5) zM rfl rfl zU ?_
   refine qs ?_
   refine Rd.WC_goal ?_
   refine Rd.WC_done (.nil _) zK ?_
   refine qhd (Qs zT ?_)
   rw [hr]
   exact ⟨(lp,.obj (.loop r))::(D,.obj (.deferred (some [])))::(b5,.cells 63 1 [v'])::(b3,.cells 30 1 [zu (at_:Int)])::(b2,.cells 276 1 [zp bw])::(X'++((bm,.obj (qM (Value.int .i64) l c))::(XS.flatten++H))),zH,rfl,v',X',by rw [hstep,if_pos q0,List.length_append,List.map_append]; exact hO',rfl⟩
  ·skip
   refine za 2 rfl (Qs zT ?_)
   rw [hr]
   exact ⟨(lp,.obj (.loop r))::(D,.obj (.deferred (some [])))::(b5,.cells 63 1 [v])::(b3,.cells 30 1 [zu (at_:Int)])::(b2,.cells 276 1 [zp bw])::(X++((bm,.obj (qM (Value.int .i64) l c))::(XS.flatten++H))),zH,rfl,v,X,by rw [hstep,if_neg q0]; exact hO,rfl⟩
 ·intro _ H' hp
  obtain ⟨Hi',hs,v,X,hO,rfl⟩:=hp
  obtain ⟨b,cap,rfl,rfl,hcap,hmax⟩:=zm.is hO hpos
  obtain ⟨d,hd⟩:∃ d,d=(duL now at_ bs L 8):=⟨_,rfl⟩
  rw [← hd] at hs hcap ⊢
  have hs2:qC H' ((b1,.cells 276 1 [zp bw])::(bw,.cells 406 523 (q9 now sl bs bm turn))::(lp,.obj (.loop r))::(D,.obj (.deferred (some [])))::(b5,.cells 63 1 [.slice (some ⟨b,0,none⟩) d.length cap])::(b3,.cells 30 1 [zu (at_:Int)])::(b2,.cells 276 1 [zp bw])::(b,.cells 3 (cap*1) ((d).map (Value.int .i64)))::(bm,.obj (qM (Value.int .i64) l c))::(XS.flatten++H)):=hs
  refine ⟨.ready,none,(b1,.cells 276 1 [zp bw])::(bw,.cells 406 523 (q9 now sl bs bm turn))::(D,.obj (.deferred (some [])))::(b5,.cells 63 1 [.slice (some ⟨b,0,none⟩) d.length cap])::(b3,.cells 30 1 [zu (at_:Int)])::(b2,.cells 276 1 [zp bw])::(b,.cells 3 (cap*1) ((d).map (Value.int .i64)))::(bm,.obj (qM (Value.int .i64) l c))::(XS.flatten++H),by rw [hr]; exact hs2.trans zH,by decide,?_⟩
  show W _ _ _ _ _ _ _ _ _
  refine za 2 rfl ?_
  refine qe (v:=.slice (some ⟨b,0,none⟩) d.length cap) rfl qZ rfl (qf.own (b:=b5) zM rfl) rfl ?_
  refine qI .nil (.cons rfl .nil) rfl ?_
  refine qk (zc2 rfl rfl) Tryz.call363 rfl ((qpa h (bw:=bw) (bm:=bm) (b2:=b2) (b:=b) (tot:=cap*1) (cap:=cap) (d:=d) (H:=(b1,.cells 276 1 [zp bw])::(D,.obj (.deferred (some [])))::(b5,.cells 63 1 [.slice (some ⟨b,0,none⟩) d.length cap])::(b3,.cells 30 1 [zu (at_:Int)])::(XS.flatten++H)) (by rw [hd]; omega)).hsub zH) ?_
  rintro v H' ⟨rfl,d',hp,hsrt,rfl⟩
  refine za 2 rfl ?_
  refine qe (v:=.slice (some ⟨b,0,none⟩) d.length cap) rfl qZ rfl (qf.own (b:=b5) zM rfl) rfl ?_
  refine za 2 rfl ?_
  refine qd (H2:=(b,.cells 3 (cap*1) ((d').map (Value.int .i64)))::(bw,.cells 406 523 (q9 now sl bs bm turn))::(bm,.obj (qM (Value.int .i64) l c))::(XS.flatten++H)) Tryz.results269 rfl (.cons zT (.nil _)) zH ?_
  exact ⟨b,cap,d',by rw [hp.length_eq],by rw [hp.length_eq]; exact hcap,hmax,hp,hsrt,rfl⟩
def ZV:List Tm→Option Nat
 | []=>none
 | t::L=>match ZV L with
  | none=>some t.s.due
  | some a=>some (min t.s.due a)
theorem Kj:∀ {L:List Tm},ZV L=none↔L=[]
 | []=>⟨fun _=>rfl,fun _=>rfl⟩
 | t::L=>by
  unfold ZV
  cases ZV L <;> simp
theorem JM:∀ {L:List Tm} {a:Nat},ZV L=some a→(∃ t∈L,t.s.due=a)∧∀ t∈L,a≤t.s.due
 | [],a,h=>by cases h
 | t::L,a,h=>by
  unfold ZV at h
  cases hl:ZV L with
  | none =>
   rw [hl] at h
   obtain rfl:t.s.due=a:=Option.some.inj h
   obtain rfl:=Kj.1 hl
   exact ⟨⟨t,List.mem_cons_self,rfl⟩,fun u hu=>by rw [List.mem_singleton.1 hu]; exact Nat.le_refl _⟩
  | some b =>
   rw [hl] at h
   obtain rfl:min t.s.due b=a:=Option.some.inj h
   obtain ⟨⟨u,hu,e⟩,h2⟩:=JM hl
   refine ⟨?_,fun x hx=>?_⟩
   ·by_cases c:t.s.due≤b
    ·exact ⟨t,List.mem_cons_self,(Nat.min_eq_left c).symm⟩
    ·exact ⟨u,List.mem_cons_of_mem _ hu,by omega⟩
   ·rcases List.mem_cons.1 hx with rfl | hx
    ·omega
    ·have:=h2 x hx; omega
theorem qhS (h1:∃ t∈L,t.s.due=a) (h2:∀ t∈L,a≤t.s.due):ZV L=some a:=by
 obtain ⟨t,ht,rfl⟩:=h1
 cases hl:ZV L with
 | none=>rw [Kj.1 hl] at ht; cases ht
 | some b =>
  obtain ⟨⟨u,hu,e⟩,h3⟩:=JM hl
  have:=h3 t ht
  have:=h2 u hu
  rw [show b=t.s.due by omega]
section
variable {now turn c:Nat} {L:List Tm} {sl:List Value} {XS:List qg} {bs:List Nat} {l:Qk Int}
theorem QZ.bsOk (h:QZ now L sl XS bs l c turn):∀ z∈bs,z<18446744073709551616:=fun z hz=>by
 obtain ⟨n,hn,e⟩:=List.getElem_of_mem hz
 obtain ⟨z',h1,h2,_⟩:=h.busy n (by rw [h.row.bs] at hn; exact hn)
 rw [List.getElem?_eq_getElem hn,e] at h1
 obtain rfl:=Option.some.inj h1
 exact h2
theorem QZ.nxIs (h:QZ now L sl XS bs l c turn) (hnow:now≤18446744073709551615):nx now bs 8=ZV L:=by
 rcases qeK h hnow 8 (Nat.le_refl _) with ⟨h1,h2⟩ | ⟨a,h1,⟨t,h2,h3,h4⟩,h5⟩
 ·rw [h1]
  cases L with
  | nil=>rfl
  | cons t L=>have:=h2 t List.mem_cons_self; have:=(h.spot t List.mem_cons_self).1; omega
 ·rw [h1,qhS ⟨t,h2,h4⟩ (fun u hu=>h5 u hu (h.spot u hu).1)]
end
theorem zP.ids {now:Nat} (h:zP bw now L turn HW):(L.map (·.id)).Nodup∧(∀ t∈L,0≤t.id∧t.id<256)∧L.Pairwise (fun a b=>a.turn<b.turn)∧L.length≤256:=by
 cases h with
 | mk h=>exact ⟨h.nodup,h.range,h.turns,h.len⟩
theorem zP.later {now:Nat} (h:zP bw now L turn HW) (hnow:now<18446744073709551615):∀ t∈L,now<t.s.due:=by
 cases h with
 | mk h =>
  intro t ht
  obtain ⟨num,_,e,h1,_⟩:=h.time t ht
  rw [e]; exact qh7 hnow h1
theorem zP.now {now:Nat} (h:zP bw now L turn HW):∃ row HT,HW=(bw,.cells 406 523 row)::HT∧row.length=523∧row[0]?=some (zu (now:Int)) ∧
  ∀ n2,now≤n2→(∀ t∈L,n2<t.s.due)→zP bw n2 L turn ((bw,.cells 406 523 (row.set 0 (zu (n2:Int))))::HT):=by
 cases h with
 | mk h=>exact ⟨_,_,rfl,qaQ h.row,qaP,fun n2 h1 h2=>by rw [qhl]; exact .mk (h.later h1 h2)⟩
theorem qqm {now:Nat} (hT:Tab w0) (hW:zP bw now L turn HW) (hnow:now≤18446744073709551615) :
  qh Tryz.prog w0 268 #[zp bw] (HW++H) (fun v H'=>v=.tuple #[zu (((ZV L).getD 0:Nat):Int),.bool (ZV L).isSome]∧H'=HW++H):=by
 cases hW with
 | @mk bm c sl XS bs l h =>
  have:=qqn (bm:=bm) (turn:=turn) (H:=(bm,.obj (qM (Value.int .i64) l c))::(XS.flatten++H)) h.row hnow h.bsOk hT (bw:=bw)
  rw [h.nxIs hnow] at this
  exact this
def ZB (L:List Tm) (id:Int):Qu:=match L.find? (fun t=>decide (t.id=id)) with
 | some t=>t.s
 | none=>qN
theorem qhs (h:(L.map (·.id)).Nodup) (ht:t∈L):ZB L t.id=t.s:=by
 unfold ZB
 cases hf:L.find? (fun u=>decide (u.id=t.id)) with
 | none=>exact absurd (decide_eq_true rfl) (List.find?_eq_none.1 hf t ht)
 | some u =>
  have h1:=List.find?_some hf
  obtain rfl:u=t:=KB h (List.mem_of_find?_eq_some hf) ht (of_decide_eq_true h1)
  rfl
theorem qfA (h:id ∉ L.map (·.id)):ZB L id=qN:=by
 unfold ZB
 cases hf:L.find? (fun u=>decide (u.id=id)) with
 | none=>rfl
 | some u =>
  have h1:=List.find?_some hf
  have h2:u.id=id:=of_decide_eq_true h1
  exact absurd (h2 ▸ List.mem_map_of_mem (List.mem_of_find?_eq_some hf)) h
theorem due_W {now:Nat} (hT:Tab w0) (hW:zP bw now L turn HW) (hnow:now≤18446744073709551615) (hat:ZV L=some at_) :
  qh Tryz.prog w0 269 #[zp bw,zu ((at_:Nat):Int)] (HW++H) (fun v H'=>∃ XB,zm 3 1 v ((Z7 L at_).map (·.id)).length (((Z7 L at_).map (·.id)).map (Value.int .i64)) XB∧H'=XB++(HW++H)):=by
 cases hW with
 | @mk bm c sl XS bs l h =>
  obtain ⟨⟨t,ht,e⟩,h2⟩:=JM hat
  have hperm:=qpS h hnow h2
  have hpos:0<(duL now at_ bs L 8).length:=by
   rw [hperm.length_eq]
   exact List.length_pos_of_mem (List.mem_map_of_mem (List.mem_filter.2 ⟨ht,decide_eq_true e⟩))
  refine (qpR (bm:=bm) (H:=H) h hnow h.bsOk hpos hT).mono ?_
  rintro v H' ⟨b,cap,d',rfl,hcap,hmax,hp,hs,rfl⟩
  obtain ⟨n1,n2⟩:=h.dueAsc at_
  obtain rfl:=qht (hp.trans hperm) n1 n2 hs
  exact ⟨_,.own (by rw [List.length_map,Nat.mul_one]) hcap hmax,rfl⟩
def ahead (a b:Tm):Prop:=a.s.due<b.s.due∨(a.s.due=b.s.due∧a.turn<b.turn)
structure ToS where
 nw:Nat
 Li:List Tm
 O:List Tm
 v:Value
 XO:qg
 HW:qg
structure KA (now nw:Nat) (L Li O:List Tm):Prop where
 le:now≤nw
 left:Li=L.filter (fun t=>decide (nw<t.s.due))
 perm:O.Perm (L.filter (fun t=>decide (t.s.due≤nw)))
 asc:O.Pairwise ahead
theorem KA.start {now:Nat} (h:∀ t∈L,now<t.s.due):KA now now L L [] where
 le:=Nat.le_refl _
 left:=(List.filter_eq_self.2 fun t ht=>decide_eq_true (h t ht)).symm
 perm:=by
  rw [List.filter_eq_nil_iff.2 (fun t ht=>by have:=h t ht; simp; omega)]
 asc:=.nil
theorem KA.len {now:Nat} (h:KA now nw L Li O):O.length≤L.length:=by
 rw [h.perm.length_eq]; exact List.length_filter_le _ _
theorem KA.wait {now n2:Nat} (h:KA now nw L Li O) (hn:nw≤n2) (hl:∀ t∈Li,n2<t.s.due):KA now n2 L Li O:=by
 have hd:∀ t∈L,nw<t.s.due→n2<t.s.due:=fun t ht h1=>hl t (by rw [h.left]; exact List.mem_filter.2 ⟨ht,decide_eq_true h1⟩)
 refine ⟨Nat.le_trans h.le hn,?_,?_,h.asc⟩
 ·rw [h.left]
  exact List.filter_congr fun t ht=>decide_eq_decide.2 ⟨hd t ht,fun h1=>by omega⟩
 ·refine h.perm.trans ?_
  rw [List.filter_congr fun t ht=>(decide_eq_decide.2 ⟨fun h1=>by omega,fun h1=>by
   by_cases c:nw<t.s.due
   ·have:=hd t ht c; omega
   ·omega⟩:decide (t.s.due≤nw)=decide (t.s.due≤n2))]
theorem qcH (h:Li.Pairwise (fun a b=>a.turn<b.turn)):(Z7 Li at_).Pairwise ahead:=by
 have h1:(Z7 Li at_).Pairwise (fun a b=>a.turn<b.turn):=h.sublist List.filter_sublist
 refine List.Pairwise.imp_of_mem ?_ h1
 intro a b ha hb hab
 exact .inr ⟨by rw [of_decide_eq_true (List.mem_filter.1 ha).2,of_decide_eq_true (List.mem_filter.1 hb).2],hab⟩
theorem KA.step {now:Nat} (h:KA now nw L Li O) (hat:ZV Li=some at_) (hturn:Li.Pairwise (fun a b=>a.turn<b.turn)) :
  KA now at_ L (Li.filter (fun t=>decide (t.s.due≠at_))) (O++Z7 Li at_):=by
 obtain ⟨⟨t0,ht0,e0⟩,hl⟩:=JM hat
 have hnw:nw<at_:=by
  rw [h.left] at ht0
  have:=of_decide_eq_true (List.mem_filter.1 ht0).2
  omega
 have hd:∀ t∈L,nw<t.s.due→at_≤t.s.due:=fun t ht h1=>hl t (by rw [h.left]; exact List.mem_filter.2 ⟨ht,decide_eq_true h1⟩)
 refine ⟨Nat.le_trans h.le (Nat.le_of_lt hnw),?_,?_,?_⟩
 ·rw [h.left,List.filter_filter]
  refine List.filter_congr fun t ht=>?_
  rw [← Bool.decide_and]
  refine decide_eq_decide.2 ⟨fun ⟨h1,h2⟩=>?_,fun h1=>⟨by omega,by omega⟩⟩
  have:=hd t ht h2; omega
 ·refine (h.perm.append_right _).trans ?_
  have e:Z7 Li at_=L.filter (fun t=>decide (t.s.due=at_)):=by
   unfold Z7
   rw [h.left,List.filter_filter]
   refine List.filter_congr fun t ht=>?_
   rw [← Bool.decide_and]
   exact decide_eq_decide.2 ⟨fun h1=>h1.1,fun h1=>⟨h1,by omega⟩⟩
  rw [e]
  refine qbc L fun t ht=>⟨?_,?_⟩
  ·simp only [decide_eq_true_eq]
   refine ⟨fun h1=>?_,fun h1=>by omega⟩
   by_cases c:nw<t.s.due
   ·have:=hd t ht c; omega
   ·omega
  ·simp only [decide_eq_true_eq]; omega
 ·rw [List.pairwise_append]
  refine ⟨h.asc,qcH hturn,fun a ha b hb=>.inl ?_⟩
  have h1:=of_decide_eq_true (List.mem_filter.1 (h.perm.mem_iff.1 ha)).2
  have h2:=of_decide_eq_true (List.mem_filter.1 hb).2
  omega
theorem qlx (L:List Tm):∀ (l:List Int) (n:Nat),(l.foldl (fun (s:List Tm × Nat) id=>(Ys s.1 id,s.2+if ZH s.1 id=true then 1 else 0)) (L,n)).1=L.filter (fun t=>decide (t.id ∉ l)):=by
 intro l
 induction l generalizing L with
 | nil=>intro n; exact (List.filter_eq_self.2 fun t _=>by simp).symm
 | cons x l ih =>
  intro n
  rw [List.foldl_cons,ih]
  unfold Ys
  rw [List.filter_filter]
  refine List.filter_congr fun t _=>?_
  rw [← Bool.decide_and]
  exact decide_eq_decide.2 ⟨fun h h2=>(List.mem_cons.1 h2).elim h.2 h.1,fun h=>⟨fun h2=>h (List.mem_cons_of_mem _ h2),fun h2=>h (h2 ▸ List.mem_cons_self)⟩⟩
theorem qlw (hn:(L.map (·.id)).Nodup):(QO L ((Z7 L at_).map (·.id))).1=L.filter (fun t=>decide (t.s.due≠at_)):=by
 unfold QO
 rw [qlx]
 refine List.filter_congr fun t ht=>decide_eq_decide.2 ⟨fun h e=>h (List.mem_map_of_mem (List.mem_filter.2 ⟨ht,decide_eq_true e⟩)),fun h e=>?_⟩
 obtain ⟨u,hu,e2⟩:=List.mem_map.1 e
 obtain rfl:=KB hn (List.mem_filter.1 hu).1 ht e2
 exact h (of_decide_eq_true (List.mem_filter.1 hu).2)
theorem qh5 (h:ZV L=some at_):(L.filter (fun t=>decide (t.s.due≠at_))).length<L.length:=by
 obtain ⟨⟨t,ht,e⟩,_⟩:=JM h
 refine List.length_filter_lt_length_iff_exists.2 ⟨t,ht,?_⟩
 simp [e]
theorem qoj {now:Nat} {row:List Value} (hw:(bw,.cells 406 tot row)∈H) (hr:row[0]?=some (zu (now:Int))) (hle:a≤now) :qB Tryz.prog w0 H 181 [zp bw,zu ((a:Nat):Int)] (.slice none 0 0):=by
 refine qc Tryz.func181 rfl Tryz.ntmps181 rfl rfl (za 3 rfl ?_)
 refine KN (fun _ _ _ h=>h) ?_
 refine za 3 rfl ?_
 refine W_x (qr rfl rfl Ze) (fun _ h=>by cases h) rfl ?_
 refine za 10 rfl ?_
 refine qe (v:=zu (now:Int)) rfl zJ rfl (qf.own hw hr) rfl ?_
 refine za 4 rfl (KP rfl (decide_eq_true zO) (za 3 rfl ?_))
 refine qd (H2:=H) Tryz.results181 rfl (.nil _) zH ?_
 exact ⟨rfl,rfl⟩
theorem qok {z:Int}:Qx Tryz.prog (fun _=>True) 181 [.pointer none,zu z] (.slice none 0 0):=by
 intro w0 H hT
 refine qc Tryz.func181 rfl Tryz.ntmps181 rfl rfl (za 3 rfl ?_)
 refine KN (fun _ _ _ h=>h) ?_
 refine za 3 rfl ?_
 refine W_x (qr rfl rfl Ze) (fun _ h=>by cases h) rfl ?_
 refine za 13 rfl ?_
 refine qd (H2:=H) Tryz.results181 rfl (.nil _) zH ?_
 exact ⟨rfl,rfl⟩
theorem To_L {now:Nat} (hW:zP bw now L turn HW) (hlt:now<a) (ha:a≤18446744073709551615) (hT:Tab w0):qh Tryz.prog w0 181 #[zp bw,zu ((a:Nat):Int)] (HW++H) (fun v H'=>∃ O Li HW' XO,zP bw a Li turn HW'∧KA now a L Li O∧zm 3 1 v O.length ((O.map (·.id)).map (Value.int .i64)) XO∧H'=XO++(HW'++H)):=by
 obtain ⟨row0,HT0,rfl,hrl0,hr0,_⟩:=hW.now
 refine qc (l:=[zp bw,zu ((a:Nat):Int)]) Tryz.func181 rfl Tryz.ntmps181 rfl rfl ?_
 refine za 3 rfl ?_
 refine KN (fun _ _ _ h=>h) ?_
 refine za 3 rfl ?_
 refine W_x (qr rfl rfl Ze) (fun _ h=>by cases h) rfl ?_
 refine za 10 rfl ?_
 refine qe (v:=zu (now:Int)) rfl zJ rfl (qf.own (b:=bw) zM hr0) rfl ?_
 refine za 4 rfl (QA rfl (decide_eq_false zO) (za 5 rfl (qbR (za 2 rfl ?_))))
 refine qU (X:=ToS) [(0,_),(1,_)] (fun (x:ToS)=>[(5,x.v)]) (fun _=>_) (fun (x:ToS)=>x.XO++(x.HW++H)) (fun (x:ToS)=>(zP bw x.nw x.Li turn x.HW∧KA now x.nw L x.Li x.O)∧x.nw≤a∧zm 3 1 x.v x.O.length ((x.O.map (·.id)).map (Value.int .i64)) x.XO) (fun (x:ToS)=>x.Li.length) ⟨now,L,[],.slice none 0 0,[],(bw,.cells 406 523 row0)::HT0⟩ ⟨⟨hW,KA.start (hW.later zO)⟩,by show now≤a; omega,zm.nil⟩ (qa rfl (qa rfl (qi _))) (qa rfl (qi _)) rfl (.refl _) ?_
 rintro ⟨nw,Li,O,v,XO,HWi⟩ ⟨hI,hna,hO⟩
 dsimp only at hI hna hO ⊢
 have hOl:=hI.2.len
 have hLl:L.length≤256:=hW.ids.2.2.2
 simp only [List.cons_append,List.nil_append]
 refine za 3 rfl ?_
 obtain ⟨hW0,hG⟩:=hI
 have hids:=hW0.ids
 have hnw:nw≤18446744073709551615:=by omega
 refine qk (zc1 rfl) Tryz.call268 rfl ((qqm hT hW0 hnw (H:=XO++H)).hsub zH) ?_
 rintro v' H' ⟨rfl,rfl⟩
 rcases hat:ZV Li with _ | at_
 ·skip
  refine za 19 rfl ?_
  have hfin:∀ t∈Li,a<t.s.due:=by rw [Kj.1 hat]; intro t ht; cases ht
  obtain ⟨row,HT,rfl,hrl,hr0,hlat⟩:=hW0.now
  have hW2:=hlat a hna hfin
  have hG2:=hG.wait hna hfin
  refine qO (H':=XO++((bw,.cells 406 523 row)::(HT++H))) (show qC (((bw,.cells 406 523 row)::HT)++(XO++H)) _ from (show qC ((bw,.cells 406 523 row)::(HT++(XO++H))) _ from zH)) ?_
  refine za 4 rfl ?_
  refine qv (l':=(row.set 0 (zu (a:Int)))) rfl rfl zJ rfl rfl (b:=bw) zM (by rw [hrl]; rfl) rfl zU ?_
  refine za 5 rfl ?_
  refine qd (H2:=XO++((bw,.cells 406 523 (row.set 0 (zu (a:Int))))::(HT++H))) Tryz.results181 rfl (.nil _) zH ?_
  exact ⟨O,Li,_,XO,hW2,hG2,hO,rfl⟩
 ·skip
  refine za 19 rfl ?_
  refine qm (p:=a<at_) rfl (by simp) (fun q0=>?_) (fun q0=>?_)
  ·skip
   refine za 2 rfl ?_
   have hfin:∀ t∈Li,a<t.s.due:=fun t ht=>by have:=(JM hat).2 t ht; omega
   obtain ⟨row,HT,rfl,hrl,hr0,hlat⟩:=hW0.now
   have hW2:=hlat a hna hfin
   have hG2:=hG.wait hna hfin
   refine qO (H':=XO++((bw,.cells 406 523 row)::(HT++H))) (show qC (((bw,.cells 406 523 row)::HT)++(XO++H)) _ from (show qC ((bw,.cells 406 523 row)::(HT++(XO++H))) _ from zH)) ?_
   refine za 4 rfl ?_
   refine qv (l':=(row.set 0 (zu (a:Int)))) rfl rfl zJ rfl rfl (b:=bw) zM (by rw [hrl]; rfl) rfl zU ?_
   refine za 5 rfl ?_
   refine qd (H2:=XO++((bw,.cells 406 523 (row.set 0 (zu (a:Int))))::(HT++H))) Tryz.results181 rfl (.nil _) zH ?_
   exact ⟨O,Li,_,XO,hW2,hG2,hO,rfl⟩
  ·skip
   refine za 4 rfl (qk (zc2 rfl rfl) Tryz.call269 rfl (due_W hT hW0 hnw hat) ?_)
   rintro vd H' ⟨XB,hB,rfl⟩
   obtain ⟨ads,caps,rfl,_,_⟩:=hB.shape
   have hdl:(Z7 Li at_).length≤Li.length:=List.length_filter_le _ _
   refine za 5 rfl ?_
   have hrow:Holds w0 (XB++(XO++H)) ads (((Z7 Li at_).map (·.id)).map (Value.int .i64)):=zm.holds hB (fun p hp=>List.mem_append_left _ hp)
   have hdn:((Z7 Li at_).map (·.id)).length≤4611686018427387904:=by rw [List.length_map]; omega
   have hDL:=qo0 (cap:=caps) hW0 hdn hrow
   have hDL2:=hDL.hsub (show qC (XB++(HWi++(XO++H))) _ from zH)
   refine qk (zc2 rfl rfl) Tryz.call264 rfl hDL2 ?_
   rintro v' H' ⟨HW1,hW1,rfl,rfl⟩
   rw [qlw hids.1] at hW1
   obtain ⟨row,HT,rfl,hrl,hr0,hlat⟩:=hW1.now
   have hG2:=hG.step hat hids.2.2.1
   have hnat:nw≤at_:=by
    obtain ⟨⟨t0,ht0,e0⟩,_⟩:=JM hat
    rw [hG.left] at ht0
    have:=of_decide_eq_true (List.mem_filter.1 ht0).2
    omega
   have hat2:∀ t∈Li.filter (fun t=>decide (t.s.due≠at_)),at_<t.s.due:=fun t ht=>by
    rw [hG2.left] at ht
    exact of_decide_eq_true (List.mem_filter.1 ht).2
   have hW2:=hlat at_ hnat hat2
   refine qO (H':=(bw,.cells 406 523 row)::(HT++(XB++(XO++H)))) (.refl _) ?_
   refine za 6 rfl ?_
   refine qv (l':=(row.set 0 (zu (at_:Int)))) rfl rfl zJ rfl rfl (b:=bw) zM (by rw [hrl]; rfl) rfl zU ?_
   refine za 4 rfl ?_
   refine Qv (news:=((Z7 Li at_).map (·.id)).map (Value.int .i64)) (m:=((Z7 Li at_).map (·.id)).length) (HB:=XO) (H0:=(bw,.cells 406 523 (row.set 0 (.int .u64 (at_:Int))))::(HT++(XB++H))) rfl rfl qZ ty3 rfl (by decide) hO (by rw [List.length_map,Nat.mul_one]) (zm.holds hB (fun p hp=>List.mem_cons_of_mem _ (List.mem_append_right _ (List.mem_append_left _ hp)))) (by rw [List.all_eq_true]; intro u hu; obtain ⟨q,_,rfl⟩:=List.mem_map.1 hu; rfl) (by rw [List.length_map]; simp only [maxLen]; omega) (by rw [List.length_map]; omega) zH rfl (fun v' X' hO'=>?_)
   refine za 3 rfl ?_
   refine qP ⟨at_,Li.filter (fun t=>decide (t.s.due≠at_)),O++Z7 Li at_,v',X',(bw,.cells 406 523 (row.set 0 (zu (at_:Int))))::HT⟩ ⟨⟨hW2,hG2⟩,by show at_≤a; omega,by show zm 3 1 v' (O++Z7 Li at_).length (((O++Z7 Li at_).map (·.id)).map (Value.int .i64)) X'; rw [List.map_append,List.map_append,List.length_append]; rw [List.length_map] at hO'; exact hO'⟩ (qh5 hat) (qa rfl (qa rfl (qa rfl (qi _)))) rfl (show qC _ (X'++((bw,.cells 406 523 (row.set 0 (zu (at_:Int))))::(HT++H))) from zH)
open Go.Proofs
theorem qpt {v:Value} (h:zm e s v n xs HB):(v=.slice none 0 0∧n=0∧xs=[]∧HB=[])∨∃ b cap,v=.slice (some ⟨b,0,none⟩) n cap∧HB=[(b,.cells e (cap*s) xs)]∧n≤cap∧cap≤maxLen:=by
 cases h with
 | nil=>exact .inl ⟨rfl,rfl,rfl,rfl⟩
 | own h1 h2 h3=>exact .inr ⟨_,_,rfl,rfl,h2,h3⟩
def Yj (l:List Int):List Int:=l.mergeSort fun x y=>decide (x≤y)
theorem YC (l:List Int):(Yj l).Perm l:=List.mergeSort_perm _ _
theorem qdb (hn:l.Nodup):(Yj l).Pairwise (· < ·):=by
 have h1:(Yj l).Pairwise (fun x y=>decide (x≤y)=true):=List.pairwise_mergeSort (fun a b c h1 h2=>by simp only [decide_eq_true_eq] at *; omega) (fun a b=>by simp only [Bool.or_eq_true,decide_eq_true_eq]; omega) l
 have h2:(Yj l).Nodup:=(YC l).nodup_iff.2 hn
 have h3:=List.pairwise_and_iff.2 ⟨h1,h2⟩
 refine h3.imp ?_
 rintro a b ⟨h4,h5⟩
 have:=of_decide_eq_true h4
 have h6:a≠b:=h5
 omega
open Go.Proofs in
theorem qmR {b:Nat} {d:List Int} (hd:d.length<4611686018427387904) :
  qh Tryz.prog w0 174 #[.slice (some ⟨b,0,none⟩) d.length cap] ((b,.cells 3 tot (d.map (Value.int .i64)))::H) (fun v H'=>v=.tuple #[]∧H'=(b,.cells 3 tot ((Yj d).map (Value.int .i64)))::H):=fun w hs=>by
 have hlt:b<w.heap.size:=(hs.own _ List.mem_cons_self).2.lt
 have hc:=Tryz.slices_Sort_int b 0 cap d w (qa5 (d:=d) (enc:=(Value.int .i64)) hs) hlt hd
 refine (callsIn_wide.2 hc).mono ?_
 rintro en w' ⟨rfl,n,os,rfl⟩
 refine ⟨_,_,rfl,⟨rfl,rfl⟩,?_⟩
 have hS:Sat w0 ((b,.cells 3 tot (((Yj d).toArray).toList.map (Value.int .i64)))::H) (sortWorld (Value.int .i64) w b 0 n (Yj d).toArray os):=JS hs (by simp [(YC d).length_eq])
 exact hS
theorem qg3:∀ {a b:List Int},a.Perm b→a.Pairwise (· < ·)→b.Pairwise (· < ·)→a=b
 | [],b,hp,_,_=>(List.Perm.nil_eq hp)
 | x::a,b,hp,ha,hb=>by
  cases b with
  | nil=>exact absurd hp.length_eq (by simp)
  | cons y b =>
   have ha':=List.pairwise_cons.1 ha
   have hb':=List.pairwise_cons.1 hb
   have hxy:x=y:=by
    rcases List.mem_cons.1 (hp.mem_iff.1 List.mem_cons_self) with h | h
    ·exact h
    ·rcases List.mem_cons.1 (hp.mem_iff.2 List.mem_cons_self) with h' | h'
     ·exact h'.symm
     ·have:=hb'.1 x h; have:=ha'.1 y h'; omega
   subst hxy
   rw [qg3 (List.Perm.cons_inv hp) ha'.2 hb'.2]
instance:DecidableEq Tm:=fun a b=>by
 cases a; cases b
 rename_i i s t i2 s2 t2
 exact if h:i=i2∧s=s2∧t=t2 then isTrue (by obtain ⟨rfl,rfl,rfl⟩:=h; rfl) else isFalse (fun e=>h (by cases e; exact ⟨rfl,rfl,rfl⟩))
instance (a b:Tm):Decidable (ahead a b):=inferInstanceAs (Decidable (_∨_))
theorem qpe {r:List Int} {a1 a2:Option Addr} {c1 c2:Nat} (hl:Holds w0 H a1 (l.map (Value.int .i64))) (hr:Holds w0 H a2 (r.map (Value.int .i64))) (hn:l.length≤4611686018427387904) :qB Tryz.prog w0 H 46 [.slice a1 l.length c1,.slice a2 r.length c2] (.bool (decide (l=r))):=by
 refine qc Tryz.func46 rfl Tryz.ntmps46 rfl rfl (za 6 rfl (zZ rfl qZ rfl rfl (qD rfl rfl (zZ rfl qZ rfl rfl (za 2 rfl ?_)))))
 refine qm (p:=(l.length:Int)≠(r.length:Int)) rfl (by simp) (fun q0=>?_) (fun q0=>?_)
 ·skip
  refine za 3 rfl ?_
  refine qd (H2:=H) Tryz.results46 rfl (.nil _) zH ?_
  exact ⟨by rw [decide_eq_false (fun e=>q0 (by rw [e]))],rfl⟩
 ·skip
  refine za 6 rfl ?_
  have hlen:l.length=r.length:=by omega
  refine qU (X:=Nat) [(0,_),(1,_)] (fun (i:Nat)=>[(5,zi (i:Int))]) (fun _=>_) (fun (i:Nat)=>H) (fun (i:Nat)=>i≤l.length∧l.take i=r.take i) (fun (i:Nat)=>l.length-i) 0 ⟨Nat.zero_le _,rfl⟩ (qa rfl (qa rfl (qi _))) (qa rfl (qi _)) rfl zH ?_
  rintro i ⟨hi,heq⟩
  simp only [List.cons_append,List.nil_append]
  refine za 4 rfl (zZ rfl qZ rfl rfl (za 2 rfl ?_))
  refine qm (p:=(i:Int)<(l.length:Int)) rfl (by simp) (fun q1=>?_) (fun q1=>?_)
  ·skip
   refine za 3 rfl (zh zk zK ?_)
   obtain ⟨x,hx⟩:∃ x,l[i]?=some x:=⟨_,List.getElem?_eq_getElem zO⟩
   obtain ⟨q0,p0,rfl,hc⟩:=hl.at (i:=i) (v:=.int .i64 x) (by rw [List.getElem?_map,hx]; rfl)
   obtain ⟨y,hy⟩:∃ y,r[i]?=some y:=⟨_,List.getElem?_eq_getElem zO⟩
   obtain ⟨q1,p1,rfl,hc'⟩:=hr.at (i:=i) (v:=.int .i64 y) (by rw [List.getElem?_map,hy]; rfl)
   refine zq 2 rfl ?_
   refine qG (qW (j:=i) rfl rfl qZ ty3 rfl zO rfl) rfl ?_
   refine qG (qj (v:=zi x) rfl ty3 rfl (by rw [Nat.mul_one]; exact hc.up zH)) rfl ?_
   refine zq 2 rfl ?_
   refine qG (qW (j:=i) rfl rfl qZ ty3 rfl zO rfl) rfl ?_
   refine qG (qj (v:=zi y) rfl ty3 rfl (by rw [Nat.mul_one]; exact hc'.up zH)) rfl ?_
   refine zq 1 rfl (zX ?_)
   refine qm (p:=¬ x=y) rfl (by simp) (fun q2=>?_) (fun q2=>?_)
   ·skip
    refine za 3 rfl ?_
    refine qd (H2:=H) Tryz.results46 rfl (.nil _) zH ?_
    exact ⟨by rw [decide_eq_false (fun e=>q2 (by rw [e,hy] at hx; exact (Option.some.inj hx).symm))],rfl⟩
   ·skip
    refine za 4 rfl ?_
    refine qE rfl rfl (qQ (m:=((i+1:Nat):Int)) ((zg zO).trans zO)) rfl ?_
    refine za 2 rfl ?_
    refine qP (i+1) ⟨by omega,by rw [Jt hx,Jt hy,heq,Classical.not_not.1 q2]⟩ (by omega) (qa rfl (qa rfl (qa rfl (qi _)))) rfl zH
  ·skip
   refine za 4 rfl ?_
   refine qd (H2:=H) Tryz.results46 rfl (.nil _) zH ?_
   obtain rfl:i=l.length:=by omega
   exact ⟨by rw [decide_eq_true (by rwa [List.take_length,hlen,List.take_length] at heq)],rfl⟩
theorem qqa {now:Nat} (hT:Tab w0) (hW:zP bw now L turn HW) (hd:∀ t∈L,now<t.s.due) (ha:a≤18446744073709551615) :
  qh Tryz.prog w0 181 #[zp bw,zu ((a:Nat):Int)] (HW++H) (fun v H'=>∃ O Li HW' XO,zP bw (max now a) Li turn HW'∧KA now (max now a) L Li O∧zm 3 1 v O.length ((O.map (·.id)).map (Value.int .i64)) XO∧H'=XO++(HW'++H)):=by
 by_cases h:a≤now
 ·obtain ⟨row,HT,rfl,_,hr0,_⟩:=hW.now
  have:=qoj (w0:=w0) (H:=((bw,.cells 406 523 row)::HT)++H) (now:=now) (row:=row) (tot:=523) zM hr0 h
  refine qh.mono this ?_
  rintro v H' ⟨rfl,rfl⟩
  rw [Nat.max_eq_left h]
  exact ⟨[],L,_,[],hW,KA.start hd,.nil,rfl⟩
 ·have e:max now a=a:=Nat.max_eq_right zO
  rw [e]
  exact To_L hW zO ha hT
structure Wl where
 bw:Nat
 now:Nat
 L:List Tm
 turn:Nat
variable {Ws:List Wl} {w:Wl}
abbrev Wl.p (w:Wl):Value:=.pointer (some ⟨w.bw,0,none⟩)
inductive zL (bb:Nat) (Ws:List Wl):qg→Prop
 | mk {v:Value} {XS:qg} {HWs:List qg} (hv:zm 276 1 v Ws.length (Ws.map Wl.p) XS) (hl:HWs.length=Ws.length) (hw:∀ (k:Nat) w HW,Ws[k]?=some w→HWs[k]?=some HW→zP w.bw w.now w.L w.turn HW):zL bb Ws ((bb,.cells 275 1 [v])::(XS++HWs.flatten))
theorem Z0 {α:Type} {l:List α} {x:α} (h:l[k]?=some x):l.set k x=l:=by
 apply List.ext_getElem?
 intro i
 by_cases e:k=i
 ·subst e; rw [List.getElem?_set_self (List.getElem?_eq_some_iff.1 h).1,h]
 ·rw [List.getElem?_set_ne e]
theorem zL.at (h:zL bb Ws HB) (hk:Ws[k]?=some w):∃ HW HR,zP w.bw w.now w.L w.turn HW∧(∀ H,qC (HB++H) (HW++(HR++H))) ∧
  ∀ w' HW',w'.bw=w.bw→zP w'.bw w'.now w'.L w'.turn HW'→∃ HB',zL bb (Ws.set k w') HB'∧∀ H,qC (HW'++(HR++H)) (HB'++H):=by
 cases h with
 | @mk v XS HWs hv hl hw =>
  have hkl:=(List.getElem?_eq_some_iff.1 hk).1
  obtain ⟨HW,hHW⟩:∃ HW,HWs[k]?=some HW:=⟨_,List.getElem?_eq_getElem zO⟩
  refine ⟨HW,(bb,.cells 275 1 [v])::(XS++(HWs.set k []).flatten),hw k w HW hk hHW,fun H=>?_,fun w' HW' e hw'=>?_⟩
  ·have h1:=((flat_take hHW).append_left ((bb,.cells 275 1 [v])::XS)).append_right H
   refine qC.of_perm ?_
   rw [List.append_assoc,List.append_assoc] at h1
   show (((bb,Blk.cells 275 1 [v])::XS)++HWs.flatten++H).Perm _
   rw [List.append_assoc]
   refine h1.trans ?_
   rw [List.append_assoc]
   refine (List.perm_append_comm_assoc _ _ _).trans ?_
   show (HW++(((bb,Blk.cells 275 1 [v])::XS)++_)).Perm (HW++((((bb,Blk.cells 275 1 [v])::XS)++_)++H))
   rw [List.append_assoc]
  ·refine ⟨(bb,.cells 275 1 [v])::(XS++(HWs.set k HW').flatten),.mk ?_ (by rw [List.length_set,List.length_set,hl]) ?_,fun H=>?_⟩
   ·rw [List.length_set,List.map_set,Z0 (by rw [List.getElem?_map,hk,show w'.p=w.p from by unfold Wl.p; rw [e]]; rfl)]; exact hv
   ·intro j u HU hj hU
    by_cases c:k=j
    ·subst c
     rw [List.getElem?_set_self hkl] at hj
     rw [List.getElem?_set_self (by omega)] at hU
     obtain rfl:=Option.some.inj hj
     obtain rfl:=Option.some.inj hU
     exact hw'
    ·rw [List.getElem?_set_ne c] at hj hU
     exact hw j u HU hj hU
   ·have h1:=((qcC (B:=HW') (XS:=HWs) (k:=k) zO).append_left ((bb,.cells 275 1 [v])::XS)).append_right H
    refine qC.of_perm (List.Perm.trans ?_ h1)
    show (HW'++((((bb,Blk.cells 275 1 [v])::XS)++_)++H)).Perm _
    rw [List.append_assoc,List.append_assoc,List.append_assoc]
    exact List.perm_append_comm_assoc _ _ _
theorem zL.row (h:zL bb Ws HB):∃ ad cap,(bb,Blk.cells 275 1 [.slice ad Ws.length cap])∈HB∧Ws.length≤cap∧∀ {w0:World} {H:qg},(∀ p∈HB,p∈H)→Holds w0 H ad (Ws.map Wl.p):=by
 cases h with
 | @mk v XS HWs hv hl hw =>
  obtain ⟨ad,cap,rfl,h1,_⟩:=hv.shape
  exact ⟨ad,cap,List.mem_cons_self,h1,fun hm=>zm.holds hv (fun p hp=>hm p (List.mem_cons_of_mem _ (List.mem_append_left _ hp)))⟩
def Yl (Ws:List Wl) (cpu:Int):Option Wl:=if 0≤cpu then Ws[cpu.toNat]? else none
def ofV (Ws:List Wl) (cpu:Int):Value:=match Yl Ws cpu with
 | some w=>w.p
 | none=>.pointer none
theorem qej (hB:zL bb Ws HB) (hm:∀ p∈HB,p∈H) :qB Tryz.prog w0 H 88 [zp bb] (zi (Ws.length:Int)):=by
 obtain ⟨ad,cap,hcell,hlc,hrow0⟩:=hB.row
 have hrow:Holds w0 H ad (Ws.map Wl.p):=hrow0 hm
 refine qc Tryz.func88 rfl Tryz.ntmps88 rfl rfl (za 6 rfl ?_)
 refine W_x (qr rfl rfl JW) (fun _ h=>by cases h) rfl ?_
 refine za 7 rfl ?_
 refine qe (v:=.slice ad Ws.length cap) rfl YA rfl (qf.own (b:=bb) (hm _ hcell) rfl) rfl ?_
 refine zZ rfl YA rfl rfl (za 2 rfl ?_)
 refine qd (H2:=H) Tryz.results88 rfl (.nil _) zH ?_
 exact ⟨rfl,rfl⟩
theorem qfa (Ws:List Wl) (cpu:Int):(cpu<0∧Yl Ws cpu=none)∨(0≤cpu∧(Ws.length:Int)≤cpu∧Yl Ws cpu=none)∨(0≤cpu∧cpu<(Ws.length:Int)∧Yl Ws cpu=Ws[cpu.toNat]?):=by
 unfold Yl
 by_cases h:0≤cpu
 ·by_cases h2:cpu<(Ws.length:Int)
  ·exact .inr (.inr ⟨h,h2,if_pos h⟩)
  ·exact .inr (.inl ⟨h,by omega,by rw [if_pos h,List.getElem?_eq_none (by omega)]⟩)
 ·exact .inl ⟨by omega,if_neg h⟩
theorem of_q (hB:zL bb Ws HB) (hm:∀ p∈HB,p∈H) :qB Tryz.prog w0 H 176 [zp bb,zi cpu] (ofV Ws cpu):=by
 obtain ⟨ad,cap,hcell,hlc,hrow0⟩:=hB.row
 have hrow:Holds w0 H ad (Ws.map Wl.p):=hrow0 hm
 refine qc Tryz.func176 rfl Tryz.ntmps176 rfl rfl (za 5 rfl ?_)
 rcases qfa Ws cpu with ⟨h1,h2⟩ | ⟨h1,h2,h3⟩ | ⟨h1,h2,h3⟩
 ·skip
  refine qD rfl rfl ?_
  refine W_x (qr rfl rfl JW) (fun _ h=>by cases h) rfl ?_
  refine za 5 rfl ?_
  rw [decide_eq_true (by omega)]
  refine za 15 rfl ?_
  refine qd (H2:=H) Tryz.results176 rfl (.nil _) zH ?_
  exact ⟨by unfold ofV; rw [h2],rfl⟩
 ·skip
  refine qD rfl rfl ?_
  refine W_x (qr rfl rfl JW) (fun _ h=>by cases h) rfl ?_
  refine za 5 rfl ?_
  rw [decide_eq_false (by omega)]
  refine za 11 rfl ?_
  refine qe (v:=.slice ad Ws.length cap) rfl YA rfl (qf.own (b:=bb) (hm _ hcell) rfl) rfl ?_
  refine QD rfl rfl (zZ rfl YA rfl rfl (za 2 rfl ?_))
  rw [decide_eq_true (by omega)]
  refine za 6 rfl ?_
  refine qd (H2:=H) Tryz.results176 rfl (.nil _) zH ?_
  exact ⟨by unfold ofV; rw [h3],rfl⟩
 ·skip
  refine qD rfl rfl ?_
  refine W_x (qr rfl rfl JW) (fun _ h=>by cases h) rfl ?_
  refine za 5 rfl ?_
  rw [decide_eq_false (by omega)]
  refine za 11 rfl ?_
  refine qe (v:=.slice ad Ws.length cap) rfl YA rfl (qf.own (b:=bb) (hm _ hcell) rfl) rfl ?_
  refine QD rfl rfl (zZ rfl YA rfl rfl (za 2 rfl ?_))
  rw [decide_eq_false (by omega)]
  refine za 8 rfl ?_
  obtain ⟨w,hw⟩:∃ w,Ws[cpu.toNat]?=some w:=⟨_,List.getElem?_eq_getElem zO⟩
  obtain ⟨qb,qo,rfl,hc⟩:=hrow.at (i:=cpu.toNat) (v:=w.p) (by rw [List.getElem?_map,hw]; rfl)
  refine qe (v:=.slice (some ⟨qb,qo,none⟩) Ws.length cap) rfl YA rfl (qf.own (b:=bb) (hm _ hcell) rfl) rfl ?_
  refine qD rfl rfl ?_
  refine qS (j:=cpu.toNat) rfl rfl YA Ze zO zO rfl rfl ?_
  refine qe (v:=w.p) rfl Ze rfl (by rw [Nat.mul_one]; exact hc) rfl ?_
  refine za 2 rfl ?_
  refine qd (H2:=H) Tryz.results176 rfl (.nil _) zH ?_
  exact ⟨by unfold ofV; rw [h3,hw],rfl⟩
structure NbS where
 i:Nat
 Ws:List Wl
 v:Value
 XS:qg
 HWs:List qg
def XW (now:Nat) (w:Wl):Prop:=w.now=now∧w.L=[]∧w.turn=0
theorem ql5 {HWs:List qg} {u:Wl} {HU:qg} (hl:HWs.length=Ws.length) (hw:∀ (k:Nat) w HW,Ws[k]?=some w→HWs[k]?=some HW→zP w.bw w.now w.L w.turn HW) (hu:zP u.bw u.now u.L u.turn HU):∀ (k:Nat) w HW,(Ws++[u])[k]?=some w→(HWs++[HU])[k]?=some HW→zP w.bw w.now w.L w.turn HW:=fun k w HW h1 h2=>by
 by_cases c:k<Ws.length
 ·rw [List.getElem?_append_left c] at h1
  rw [List.getElem?_append_left (by omega)] at h2
  exact hw k w HW h1 h2
 ·rw [List.getElem?_append_right (by omega)] at h1 h2
  rw [hl] at h2
  cases hk:k-Ws.length with
  | zero =>
   rw [hk] at h1 h2
   obtain rfl:u=w:=by simpa using h1
   obtain rfl:HU=HW:=by simpa using h2
   exact hu
  | succ j=>rw [hk] at h1; simp at h1
theorem qqq {now:Nat} (hn:1≤n∧n≤64) :qh Tryz.prog w0 196 #[zi (n:Int),zu ((now:Nat):Int)] (H) (fun v H'=>∃ bb Ws HB,v=.tuple #[zp bb,zi 0]∧zL bb Ws HB∧Ws.length=n∧(∀ w∈Ws,XW now w)∧H'=HB++H):=by
 refine qc (l:=[zi (n:Int),zu ((now:Nat):Int)]) Tryz.func196 rfl Tryz.ntmps196 rfl rfl ?_
 refine za 8 rfl ?_
 rw [decide_eq_false (by omega)]
 refine za 5 rfl ?_
 rw [decide_eq_false (by omega)]
 refine za 5 rfl ?_
 refine qX (l:=[.slice none 0 0]) ty275 pl275 .nil rfl rfl rfl ?_
 refine qK (l:=[.slice none 0 0]) rfl rfl rfl (fun b14=>?_)
 refine za 8 rfl ?_
 refine qU (X:=NbS) [(1,_),(6,_),(15,_)] (fun (x:NbS)=>[(16,zi (x.i:Int))]) (fun _=>_) (fun (x:NbS)=>(b14,.cells 275 1 [x.v])::(x.XS++(x.HWs.flatten++H))) (fun (x:NbS)=>x.i≤n∧x.Ws.length=x.i∧zm 276 1 x.v x.Ws.length (x.Ws.map Wl.p) x.XS∧x.HWs.length=x.Ws.length∧(∀ (k:Nat) w HW,x.Ws[k]?=some w→x.HWs[k]?=some HW→zP w.bw w.now w.L w.turn HW)∧∀ w∈x.Ws,XW now w) (fun (x:NbS)=>n-x.i) ⟨0,[],.slice none 0 0,[],[]⟩ ⟨Nat.zero_le _,rfl,.nil,rfl,fun k w HW h=>(by cases h),fun w h=>(by cases h)⟩ (qa rfl (qa rfl (qa rfl (qi _)))) (qa rfl (qi _)) rfl (.refl _) ?_
 rintro ⟨i,Ws,v,XS,HWs⟩ ⟨hi,hlen,hv,hl,hw,hf⟩
 dsimp only at hi hlen hv hl hw hf ⊢
 simp only [List.cons_append,List.nil_append]
 refine za 4 rfl ?_
 refine qm (p:=(i:Int)<(n:Int)) rfl (by simp) (fun q0=>?_) (fun q0=>?_)
 ·skip
  refine za 3 rfl ?_
  refine W_anyS [(b14,.cells 275 1 [v])] 11 zk ?_
  refine WS_take 0 rfl rfl zK zK zK zK rfl rfl (zf rfl) rfl ?_
  refine WS_take 1 rfl rfl zK zK zK zK rfl rfl (zf rfl) rfl ?_
  refine WS_take 2 rfl rfl zK zK zK zK rfl rfl (qY rfl) rfl ?_
  refine WS_take 3 rfl rfl zK zK zK zK rfl rfl (qF rfl qcB zd) rfl ?_
  refine WS_take 4 rfl rfl zK zK zK zK rfl rfl (qj (v:=v) rfl YA rfl (qf.own (b:=b14) zM rfl)) rfl ?_
  refine WS_take 5 rfl rfl zK zK zK zK rfl rfl (zf rfl) rfl ?_
  refine WS_one 6 zH rfl zK rfl rfl ?_
  refine qk (zc1 rfl) Tryz.call275 rfl (New_W (now:=now)) ?_
  rintro w2 H' ⟨bw,HW,rfl,hW,rfl⟩
  refine qs ?_
  refine WS_goal ?_
  refine WS_one 7 zH rfl zK rfl rfl ?_
  refine qy (l:=[zp bw]) YA Ze (.cons rfl rfl rfl rfl rfl .nil) rfl rfl rfl rfl rfl rfl rfl (fun b25=>?_)
  refine qs ?_
  refine WS_goal ?_
  refine WS_one 8 zH rfl zK rfl rfl ?_
  refine Qv (news:=[zp bw]) (m:=1) (HB:=XS) (H0:=(b25,.cells 276 1 [zp bw])::(HW++((b14,.cells 275 1 [v])::(HWs.flatten++H)))) rfl rfl YA Ze rfl (by decide) hv rfl (Holds.own (b:=b25) zM) rfl (by simp only [maxLen]; omega) (by omega) zH rfl (fun v' X' hv'=>?_)
  refine qs ?_
  refine WS_goal ?_
  refine Qj 9 rfl rfl zK zK zK rfl rfl (qY rfl) rfl ?_
  refine WS_take 10 rfl rfl zK zK zK zK rfl rfl (qF rfl qcB zd) rfl ?_
  refine WS_last zH zK rfl rfl ?_
  have hv1:v'.oneCell'=true:=by obtain ⟨_,_,rfl,_⟩:=hv'.shape; rfl
  refine qv (l':=[v']) rfl rfl YA hv1 rfl (b:=b14) zM rfl rfl zU ?_
  refine qs (WC_goal (WC_done (.nil _) zK (za 2 rfl ?_)))
  refine qE rfl rfl (qQ (m:=((i+1:Nat):Int)) ((zg zO).trans zO)) rfl ?_
  refine za 2 rfl ?_
  refine qP ⟨i+1,Ws++[⟨bw,now,[],0⟩],v',X',HWs++[HW]⟩ ⟨by show i+1≤n; omega,by show (Ws++[_]).length=i+1; rw [List.length_append,hlen]; rfl,by show zm 276 1 v' (Ws++[_]).length ((Ws++[_]).map Wl.p) X'; rw [List.length_append,List.map_append]; exact hv',by show (HWs++[HW]).length=(Ws++[_]).length; rw [List.length_append,List.length_append,hl]; rfl,ql5 hl hw hW,fun w h=>(List.mem_append.1 h).elim (hf w) (fun h=>by rw [List.mem_singleton.1 h]; exact ⟨rfl,rfl,rfl⟩)⟩ (by show n-(i+1)<n-i; omega) (qa rfl (qa rfl (qa rfl (qa rfl (qi _))))) rfl (by show qC _ ((b14,.cells 275 1 [v'])::(X'++((HWs++[HW]).flatten++H))); rw [List.flatten_append,List.flatten_singleton,List.append_assoc]; first | exact YF | (repeat (first | with_reducible exact qC.refl _ | refine qC.cons zT ?_ | refine qC.app zS ?_ | exact qC.nil _ | exact qC.refl _ | refine qC.drop ?_ | refine qC.dropS ?_)))
 ·skip
  refine za 6 rfl ?_
  refine qL (H2:=(b14,.cells 275 1 [v])::(XS++(HWs.flatten++H))) Tryz.results196 rfl rfl (.nil _) zH ?_
  exact ⟨b14,Ws,(b14,.cells 275 1 [v])::(XS++HWs.flatten),rfl,.mk hv hl hw,by omega,hf,by show _=_::((XS++HWs.flatten)++H); rw [List.append_assoc]⟩
theorem qi0 {b f:Value} (hb:b.cells.toList=[b]) (hf:f.cells.toList=[f]):qh Tryz.prog w0 188 #[b,f] (H) (fun v H'=>∃ b2 b3,v=.func (.func 271) #[] #[zp b2,zp b3]∧H'=(b3,.cells 285 1 [f])::(b2,.cells 167 1 [b])::H):=by
 refine qc (l:=[b,f]) Tryz.func188 rfl Tryz.ntmps188 rfl rfl ?_
 refine ze ?_
 refine qK (l:=[b]) rfl hb rfl (fun b2=>?_)
 refine qK (l:=[f]) rfl hf rfl (fun b3=>?_)
 refine za 3 rfl (qI .nil (.cons rfl (.cons rfl .nil)) rfl (za 2 rfl (qd Tryz.results188 rfl (.nil _) (.refl _) ?_)))
 exact ⟨b2,b3,rfl,rfl⟩
theorem qda {HB0:qg} {lp b3 fi:Nat} {ca:List Value} {Ws0:List Wl} (J:Nat→List Wl→qg→Prop) (S:List Wl→qg→Prop) (sel:Nat→Wl→Bool) (hfi:∀ (args:Array Value) (w:World),(callFunc fi args).run Tryz.prog w=.ok (.enter fi args) w)
  (hn64:n≤64) (hlen:∀ k Ws Hr,J k Ws Hr→Ws.length=n)
  (hcl:∀ k Ws HB Hr w,k<n→Ws[k]?=some w→zL bb Ws HB→J k Ws Hr→qB Tryz.prog w0 ((b2,.cells 167 1 [zp bb])::(b3,.cells 285 1 [(Value.func (.func fi) #[] ca.toArray)])::(HB++Hr)) fi ([zi (k:Int),w.p]++ca) (.bool (sel k w)))
  (hskip:∀ k Ws Hr w,k<n→Ws[k]?=some w→J k Ws Hr→sel k w=false→J (k+1) Ws Hr)
  (hround:∀ k Ws HB Hr w,k<n→Ws[k]?=some w→zL bb Ws HB→J k Ws Hr→sel k w=true→ZD Tryz.prog w0 lp #[zi (k:Int),w.p] ((b2,.cells 167 1 [zp bb])::(b3,.cells 285 1 [(Value.func (.func fi) #[] ca.toArray)])::(HB++Hr)) (fun v H'=>∃ Ws' HB' Hr',zL bb Ws' HB'∧qC H' ((b2,.cells 167 1 [zp bb])::(b3,.cells 285 1 [(Value.func (.func fi) #[] ca.toArray)])::(HB'++Hr'))∧((v=.bool true∧J (k+1) Ws' Hr')∨(v=.bool false∧S Ws' Hr'))))
  (hB0:zL bb Ws0 HB0) (hJ0:J 0 Ws0 H) :
  qh Tryz.prog w0 271 #[.func (.yield lp) #[] #[],zp b2,zp b3] ((b2,.cells 167 1 [zp bb])::(b3,.cells 285 1 [(Value.func (.func fi) #[] ca.toArray)])::(HB0++H)) (fun _ H'=>∃ Ws' HB' Hr',zL bb Ws' HB'∧qC H' ((b2,.cells 167 1 [zp bb])::(b3,.cells 285 1 [(Value.func (.func fi) #[] ca.toArray)])::(HB'++Hr'))∧(J n Ws' Hr'∨S Ws' Hr')):=by
 refine qc (l:=[.func (.yield lp) #[] #[],zp b2,zp b3]) Tryz.func271 rfl Tryz.ntmps271 rfl rfl ?_
 refine ze ?_
 refine qe (v:=zp bb) rfl JW rfl (qf.own (b:=b2) zM rfl) rfl ?_
 have hm0:∀ p∈HB0,p∈(b2,.cells 167 1 [zp bb])::(b3,.cells 285 1 [(Value.func (.func fi) #[] ca.toArray)])::(HB0++H):=fun p hp=>List.mem_cons_of_mem _ (List.mem_cons_of_mem _ (List.mem_append_left _ hp))
 have hcq:=qej (w0:=w0) (bb:=bb) (Ws:=Ws0) hB0 hm0
 rw [hlen 0 Ws0 H hJ0] at hcq
 refine qn (zc1 rfl) Tryz.call88 rfl hcq (za 3 rfl ?_)
 refine qU (X:=(Nat × List Wl × qg × qg)) [(0,_),(1,_),(2,_),(7,_)] (fun (x:(Nat × List Wl × qg × qg))=>[(8,zi (x.1:Int))]) (fun _=>_) (fun (x:(Nat × List Wl × qg × qg))=>(b2,.cells 167 1 [zp bb])::(b3,.cells 285 1 [(Value.func (.func fi) #[] ca.toArray)])::(x.2.2.1++x.2.2.2)) (fun (x:(Nat × List Wl × qg × qg))=>x.1≤n∧zL bb x.2.1 x.2.2.1∧J x.1 x.2.1 x.2.2.2) (fun (x:(Nat × List Wl × qg × qg))=>n-x.1) (0,Ws0,HB0,H) ⟨Nat.zero_le _,hB0,hJ0⟩ (qa rfl (qa rfl (qa rfl (qa rfl (qi _))))) (qa rfl (qi _)) rfl (.refl _) ?_
 rintro ⟨k,Ws,HB,Hr⟩ ⟨hk,hB,hJk⟩
 dsimp only at hk hB hJk ⊢
 simp only [List.cons_append,List.nil_append]
 refine za 4 rfl ?_
 refine qm (p:=(k:Int)<(n:Int)) rfl (by simp) (fun q0=>?_) (fun q0=>?_)
 ·skip
  refine za 8 rfl ?_
  obtain ⟨w,hw⟩:∃ w,Ws[k]?=some w:=⟨_,List.getElem?_eq_getElem (by rw [hlen k Ws Hr hJk]; omega)⟩
  have hkn:k<n:=by omega
  obtain ⟨ad,cap,hcell,hlc,hrow0⟩:=hB.row
  have hmem:∀ p∈HB,p∈(b2,.cells 167 1 [zp bb])::(b3,.cells 285 1 [(Value.func (.func fi) #[] ca.toArray)])::(HB++Hr):=fun p hp=>List.mem_cons_of_mem _ (List.mem_cons_of_mem _ (List.mem_append_left _ hp))
  obtain ⟨qb,qo,rfl,hc⟩:=(hrow0 (w0:=w0) hmem).at (i:=k) (v:=w.p) (by rw [List.getElem?_map,hw]; rfl)
  refine qe (v:=zp bb) rfl JW rfl (qf.own (b:=b2) zM rfl) rfl ?_
  refine za 2 rfl ?_
  refine qe (v:=.slice (some ⟨qb,qo,none⟩) Ws.length cap) rfl YA rfl (qf.own (b:=bb) (hmem _ hcell) rfl) rfl ?_
  refine qD rfl rfl ?_
  refine qS (j:=k) rfl rfl YA Ze rfl (by rw [hlen k Ws Hr hJk]; omega) rfl rfl ?_
  refine qe (v:=w.p) rfl Ze rfl (by rw [Nat.mul_one]; exact hc) rfl ?_
  refine za 3 rfl ?_
  refine qe (v:=(Value.func (.func fi) #[] ca.toArray)) rfl ty285 rfl (qf.own (b:=b3) zM rfl) rfl ?_
  refine za 2 rfl ?_
  refine Xr (fa:=[]) (ca:=ca) rfl (.cons rfl (.cons rfl .nil)) rfl hfi rfl (hcl k Ws HB Hr w hkn hw hB hJk) ?_
  rcases hs:sel k w with _ | _
  ·skip
   refine za 12 rfl ?_
   refine qE rfl rfl (qQ (m:=((k+1:Nat):Int)) ((zg zO).trans zO)) rfl ?_
   refine za 2 rfl ?_
   refine qP (k+1,Ws,HB,Hr) ⟨by show k+1≤n; omega,hB,hskip k Ws Hr w hkn hw hJk hs⟩ (by show n-(k+1)<n-k; omega) (qa rfl (qa rfl (qa rfl (qa rfl (qa rfl (qi _)))))) rfl (.refl _)
  ·skip
   refine za 8 rfl (JT rfl (.cons rfl (.cons rfl .nil)) rfl (hround k Ws HB Hr w hkn hw hB hJk hs) ?_)
   rintro v H' ⟨Ws',HB',Hr',hB',hsub,⟨rfl,hJ'⟩ | ⟨rfl,hS'⟩⟩
   ·skip
    refine qO hsub ?_
    refine za 8 rfl ?_
    refine qE rfl rfl (qQ (m:=((k+1:Nat):Int)) ((zg zO).trans zO)) rfl ?_
    refine za 2 rfl ?_
    refine qP (k+1,Ws',HB',Hr') ⟨by show k+1≤n; omega,hB',hJ'⟩ (by show n-(k+1)<n-k; omega) (qa rfl (qa rfl (qa rfl (qa rfl (qa rfl (qi _)))))) rfl (.refl _)
   ·skip
    refine qO hsub ?_
    refine za 5 rfl (Yv Tryz.results271 (.nil _) (.refl _) ?_)
    exact ⟨Ws',HB',Hr',hB',.refl _,.inr hS'⟩
 ·skip
  refine Yg rfl (Zn Tryz.results271 (.nil _) (.refl _) ?_)
  obtain rfl:k=n:=by omega
  exact ⟨Ws,HB,Hr,hB,.refl _,.inl hJk⟩
theorem zL.wheel (h:zL bb Ws HB) (hk:Ws[k]?=some w):∃ HW,zP w.bw w.now w.L w.turn HW∧∀ p∈HW,p∈HB:=by
 cases h with
 | @mk v XS HWs hv hl hw =>
  have hkl:=(List.getElem?_eq_some_iff.1 hk).1
  obtain ⟨HW,hHW⟩:∃ HW,HWs[k]?=some HW:=⟨_,List.getElem?_eq_getElem zO⟩
  exact ⟨HW,hw k w HW hk hHW,fun p hp=>List.mem_cons_of_mem _ (List.mem_append_right _ (List.mem_flatten.2 ⟨HW,List.mem_of_getElem? hHW,hp⟩))⟩
theorem qgW {now:Nat} (hW:zP bw now L turn HW) (hm:∀ p∈HW,p∈H):qB Tryz.prog w0 H 187 [zp bw,zi id] (.tuple #[.agg (ZB L id).v.toArray,.bool (ZH L id)]):=by
 cases hW with
 | @mk bm c sl XS bs l h =>
  have h1:=hm _ List.mem_cons_self
  have h2:=hm _ (List.mem_cons_of_mem _ List.mem_cons_self)
  by_cases hin:id∈L.map (·.id)
  ·obtain ⟨t,ht,rfl⟩:=List.mem_map.1 hin
   obtain ⟨hv,hh⟩:=h.hit ht
   rw [qhs h.nodup ht,Jk.2 hin]
   exact qmq (now:=now) (turn:=turn) (c:=c) (l:=l) h.row h1 h2 hv hh
  ·obtain ⟨hv,hh⟩:=h.miss hin
   rw [qfA hin,show ZH L id=false by (cases hb:ZH L id with | false=>rfl | true=>exact absurd (Jk.1 hb) hin)]
   exact qmq (tn:=0) (e:=qN) (now:=now) (turn:=turn) (c:=c) (l:=l) h.row h1 h2 hv hh
theorem qnM {bi:Nat} (hW:zP w.bw w.now w.L w.turn HW) (hm:∀ p∈HW,p∈H) (hb:(bi,.cells 3 1 [zi id])∈H) :qB Tryz.prog w0 H 186 [zi (k:Int),w.p,zp bi] (.bool (ZH w.L id)):=by
 refine qc Tryz.func186 rfl Tryz.ntmps186 rfl rfl (za 5 rfl ?_)
 refine qe (v:=zi id) rfl ty3 rfl (qf.own hb rfl) rfl ?_
 refine qn (zc2 rfl rfl) Tryz.call187 rfl (qgW (id:=id) hW hm) ?_
 refine za 3 rfl ?_
 refine qp (l:=qN.v) zj rfl rfl (fun b6=>?_)
 refine ql (l':=(ZB w.L id).v) rfl rfl zj rfl rfl (b:=b6) zM (by exact Nat.le_refl 4) rfl zU ?_
 refine za 6 rfl ?_
 refine qd (H2:=H) Tryz.results186 rfl (.nil _) zH ?_
 exact ⟨rfl,rfl⟩
def ZT (Ws:List Wl) (id:Int):Option Nat:=Ws.findIdx? (fun w=>ZH w.L id)
theorem qf5 (hw:Ws[k]?=some w) (hh:ZH w.L id=true) (hf:∀ (j:Nat) u,j<k→Ws[j]?=some u→ZH u.L id=false):ZT Ws id=some k:=by
 unfold ZT
 have hk:=(List.getElem?_eq_some_iff.1 hw)
 have hk1:=hk.1
 refine List.findIdx?_eq_some_iff_getElem.2 ⟨hk.1,by rw [hk.2]; exact hh,fun j hj=>?_⟩
 rw [hf j _ hj (List.getElem?_eq_getElem (by omega))]; simp
theorem qcE (hf:∀ (j:Nat) u,j<Ws.length→Ws[j]?=some u→ZH u.L id=false):ZT Ws id=none:=by
 unfold ZT
 rw [List.findIdx?_eq_none_iff]
 intro w hw
 obtain ⟨j,hj,e⟩:=List.getElem_of_mem hw
 exact hf j w hj (by rw [List.getElem?_eq_getElem hj,e])
def Ko (Ws:List Wl) (id:Int):Value:=match ZT Ws id with
 | some k=>match Ws[k]? with
  | some w=>.tuple #[.int .i64 (k:Int),.agg (ZB w.L id).v.toArray,.bool true]
  | none=>.tuple #[.int .i64 0,.agg qN.v.toArray,.bool false]
 | none=>.tuple #[.int .i64 0,.agg qN.v.toArray,.bool false]
theorem qi4 {p:Wl→Bool} (h:∀ (j:Nat) u,j<k→Ws[j]?=some u→p u=false) (hw:Ws[k]?=some w) (hs:p w=false):∀ (j:Nat) u,j<k+1→Ws[j]?=some u→p u=false:=fun j u hj hu=>by
 by_cases e:j=k
 ·subst e
  obtain rfl:=Option.some.inj (hu.symm.trans hw)
  exact hs
 ·exact h j u zO hu
theorem qhi (hB:zL bb Ws HB) (hn64:Ws.length≤64) :qh Tryz.prog w0 98 #[zp bb,zi id] (HB++H) (fun v H'=>∃ HB',zL bb Ws HB'∧v=Ko Ws id∧H'=HB'++H):=by
 refine qc (l:=[zp bb,zi id]) Tryz.func98 rfl Tryz.ntmps98 rfl rfl ?_
 refine ze ?_
 refine qK (l:=[zi id]) rfl rfl rfl (fun b3=>?_)
 refine qp (l:=[zi 0]) ty3 rfl rfl (fun b4=>?_)
 refine qp (l:=qN.v) zj rfl rfl (fun b5=>?_)
 refine qp (l:=[.bool false]) ty4 rfl rfl (fun b6=>?_)
 refine za 2 rfl (qI .nil (.cons rfl .nil) rfl (za 6 rfl ?_))
 refine qk (zc2 rfl rfl) Tryz.call188 rfl (qi0 (b:=zp bb) (f:=.func (.func 186) #[] #[zp b3]) rfl rfl) ?_
 rintro v H' ⟨b2_,b3_,rfl,rfl⟩
 refine za 2 rfl (Qp rfl Tryz.call271 ?_)
 intro lp D r hst hpd hps hasg hbody hA
 have hr:=QC hst hpd
 show qh _ _ _ #[_,_,_] _ _
 refine ((qda (b2:=b2_) (b3:=b3_) (bb:=bb) (n:=Ws.length) (fi:=186) (ca:=[zp b3]) (Ws0:=Ws) (HB0:=HB) (H:=(lp,.obj (.loop r))::(D,.obj (.deferred (some [])))::(b6,.cells 4 1 [.bool false])::(b5,.cells 71 4 qN.v)::(b4,.cells 3 1 [.int .i64 0])::(b3,.cells 3 1 [.int .i64 id])::H) (fun k Ws2 Hr=>Ws2=Ws∧(∀ (j:Nat) u,j<k→Ws[j]?=some u→ZH u.L id=false)∧Hr=(lp,.obj (.loop r))::(D,.obj (.deferred (some [])))::(b6,.cells 4 1 [.bool false])::(b5,.cells 71 4 qN.v)::(b4,.cells 3 1 [.int .i64 0])::(b3,.cells 3 1 [.int .i64 id])::H) (fun Ws2 Hr=>Ws2=Ws∧∃ (k:Nat) (w:Wl),Ws[k]?=some w∧ZT Ws id=some k∧Hr=(lp,.obj (.loop (Loop.at r .done (some .ret))))::(D,.obj (.deferred (some [])))::(b6,.cells 4 1 [.bool true])::(b5,.cells 71 4 (ZB w.L id).v)::(b4,.cells 3 1 [.int .i64 (k:Int)])::(b3,.cells 3 1 [.int .i64 id])::H) (fun _ w=>ZH w.L id) Tryz.call186 hn64 (fun k Ws' Hr hJ=>by rw [hJ.1]) (fun k Ws2 HB2 Hr w hk hw hB2 hJ=>by obtain ⟨rfl,_,rfl⟩:=hJ; obtain ⟨HW,hW,hmw⟩:=hB2.wheel hw; exact qnM (bi:=b3) hW (fun p hp=>List.mem_cons_of_mem _ (List.mem_cons_of_mem _ (List.mem_append_left _ (hmw p hp)))) zM) (fun k Ws2 Hr w hk hw hJ hs=>by obtain ⟨rfl,h1,h2⟩:=hJ; exact ⟨rfl,qi4 h1 hw hs,h2⟩) ?_ hB ⟨rfl,fun j u hj=>by omega,rfl⟩).hsub zH).mono ?_
 ·intro k Ws2 HB2 Hr w hk hw hB2 hJ hs
  obtain ⟨rfl,hJ1,rfl⟩:=hJ
  obtain ⟨HW,hW,hmw⟩:=hB2.wheel hw
  refine Qo hst hpd hA hps rfl hasg rfl rfl rfl zT ?_
  refine za 6 rfl (Jf hst hpd zT hbody (za 3 rfl ?_))
  refine qe (v:=zi id) rfl ty3 rfl (qf.own (b:=b3) zM rfl) rfl ?_
  refine qn (zc2 rfl rfl) Tryz.call187 rfl (qgW (id:=id) hW (fun p hp=>(by repeat (first | exact List.mem_append_left _ (hmw p hp) | exact List.mem_cons_self | apply List.mem_cons_of_mem | apply List.mem_append_right)))) ?_
  refine za 3 rfl ?_
  refine qp (l:=qN.v) zj rfl rfl (fun b10=>?_)
  refine ql (l':=(ZB w.L id).v) rfl rfl zj rfl rfl (b:=b10) zM (by exact Nat.le_refl 4) rfl zU ?_
  refine za 3 rfl ?_
  refine Rd.W_anyC [(b10,.cells 71 4 (ZB w.L id).v)] zk ?_
  refine Rd.WC_take 0 (l':=#[true,false,false,false,false]) rfl zK zK zK zK rfl zK (zf rfl) rfl ?_
  refine Rd.WC_take 1 (l':=#[true,true,false,false,false]) rfl zK zK zK zK rfl zK (Qm (vs:=(ZB w.L id).v) rfl zj rfl (b:=b10) zM rfl rfl) rfl ?_
  refine Rd.WC_one 2 zH zK rfl rfl ?_
  refine qv (l':=[zi (k:Int)]) rfl rfl ty3 rfl rfl (b:=b4) zM rfl rfl zU ?_
  refine qs ?_
  refine Rd.WC_goal ?_
  refine Rd.WC_one 3 zH zK rfl rfl ?_
  refine ql (l':=(ZB w.L id).v) rfl rfl zj rfl rfl (b:=b5) zM (by exact Nat.le_refl 4) rfl zU ?_
  refine qs ?_
  refine Rd.WC_goal ?_
  refine Rd.WC_one 4 zH zK rfl rfl ?_
  refine qv (l':=[.bool true]) rfl rfl ty4 rfl rfl (b:=b6) zM rfl rfl zU ?_
  refine qs ?_
  refine Rd.WC_goal ?_
  refine Rd.WC_done zH zK ?_
  refine XM zT ?_
  exact ⟨Ws2,HB2,(lp,.obj (.loop (Loop.at r .done (some .ret))))::(D,.obj (.deferred (some [])))::(b6,.cells 4 1 [.bool true])::(b5,.cells 71 4 (ZB w.L id).v)::(b4,.cells 3 1 [zi (k:Int)])::(b3,.cells 3 1 [zi id])::H,hB2,zH,.inr ⟨rfl,rfl,k,w,hw,qf5 hw hs hJ1,rfl⟩⟩
  skip
 ·intro _ H' hp
  obtain ⟨Ws2,HB2,Hr,hB2,hs,hJS⟩:=hp
  rcases hJS with ⟨rfl,hJ1,rfl⟩ | ⟨rfl,k,w,hw,hfk,rfl⟩
  case inr =>
   refine ⟨.done,some .ret,(b2_,.cells 167 1 [zp bb])::(b3_,.cells 285 1 [.func (.func 186) #[] #[zp b3]])::(HB2++((D,.obj (.deferred (some [])))::(b6,.cells 4 1 [.bool true])::(b5,.cells 71 4 (ZB w.L id).v)::(b4,.cells 3 1 [zi (k:Int)])::(b3,.cells 3 1 [zi id])::H)),hs.trans zH,by decide,?_⟩
   show W _ _ _ _ _ _ _ _ _
   refine qbP (H2:=HB2++H) Tryz.results98 (.cons zT (.nil _)) (.one rfl ty3 rfl (qf.own (b:=b4) zM rfl)) (.own rfl zj rfl (b:=b5) zM rfl) (.one rfl ty4 rfl (qf.own (b:=b6) zM rfl)) zH ?_
   exact ⟨HB2,hB2,by unfold Ko; rw [hfk]; dsimp only; rw [hw],rfl⟩
  refine ⟨.ready,none,(b2_,.cells 167 1 [zp bb])::(b3_,.cells 285 1 [.func (.func 186) #[] #[zp b3]])::(HB2++((D,.obj (.deferred (some [])))::(b6,.cells 4 1 [.bool false])::(b5,.cells 71 4 qN.v)::(b4,.cells 3 1 [zi 0])::(b3,.cells 3 1 [zi id])::H)),by rw [hr]; exact hs.trans zH,by decide,?_⟩
  show W _ _ _ _ _ _ _ _ _
  refine za 2 rfl (qX zj qcf .nil rfl zF rfl ?_)
  refine qv (l':=[zi 0]) rfl rfl ty3 rfl rfl (b:=b4) zM rfl rfl zU ?_
  refine ql (l':=qN.v) rfl rfl zj rfl rfl (b:=b5) zM (by exact Nat.le_refl 4) rfl zU ?_
  refine qv (l':=[.bool false]) rfl rfl ty4 rfl rfl (b:=b6) zM rfl rfl zU ?_
  refine qs ?_
  refine qbP (H2:=HB2++H) Tryz.results98 (.cons zT (.nil _)) (.one rfl ty3 rfl (qf.own (b:=b4) zM rfl)) (.own rfl zj rfl (b:=b5) zM rfl) (.one rfl ty4 rfl (qf.own (b:=b6) zM rfl)) zH ?_
  exact ⟨HB2,hB2,by unfold Ko; rw [qcE hJ1],rfl⟩
def ZR (Ws:List Wl) (cpu:Int) (a:Nat) (Ws':List Wl) (O:List Tm):Prop :=
 (Yl Ws cpu=none∧Ws'=Ws∧O=[])∨∃ (k:Nat) (w:Wl) (Li:List Tm),cpu=(k:Int)∧Ws[k]?=some w∧KA w.now (max w.now a) w.L Li O∧Ws'=Ws.set k ⟨w.bw,max w.now a,Li,w.turn⟩
theorem K8 (h:Yl Ws cpu=some w):∃ k:Nat,cpu=(k:Int)∧Ws[k]?=some w:=by
 unfold Yl at h
 by_cases c:0≤cpu
 ·rw [if_pos c] at h
  exact ⟨cpu.toNat,by omega,h⟩
 ·rw [if_neg c] at h; cases h
theorem qcj (h:Yl Ws cpu=none):ofV Ws cpu=.pointer none:=by unfold ofV; rw [h]
theorem qci (h:Yl Ws cpu=some w):ofV Ws cpu=w.p:=by unfold ofV; rw [h]
inductive Xt (Ws:List Wl) (cpu id:Int) (a:Nat):List Wl→Qu→Int→Prop
 | cpu (h:Yl Ws cpu=none):Xt Ws cpu id a Ws qN 2
 | twice {w:Wl} {k:Nat} (h:Yl Ws cpu=some w) (hf:ZT Ws id=some k):Xt Ws cpu id a Ws qN 5
 | range {w:Wl} (h:Yl Ws cpu=some w) (hf:ZT Ws id=none) (hr:¬ (0≤id∧id<256)):Xt Ws cpu id a Ws qN 2
 | late {w:Wl} (h:Yl Ws cpu=some w) (hf:ZT Ws id=none) (hr:0≤id∧id<256) (hm:w.now=18446744073709551615):Xt Ws cpu id a Ws qN 12
 | ok {k:Nat} {w:Wl} (hc:cpu=(k:Int)) (hk:Ws[k]?=some w) (hf:ZT Ws id=none) (hr:0≤id∧id<256) (hm:w.now<18446744073709551615):Xt Ws cpu id a (Ws.set k ⟨w.bw,w.now,w.L++[qfx w.now a w.turn id],w.turn+1⟩) (Qq w.now a).1 0
theorem qlr (h:ZT Ws id=none) (hw:w∈Ws):id ∉ w.L.map (·.id):=fun hin=>by
 unfold ZT at h
 rw [List.findIdx?_eq_none_iff] at h
 have:=h w hw
 rw [Jk.2 hin] at this; cases this
theorem qmu (hB:zL bb Ws HB) (ha:a≤18446744073709551615) (hd:∀ w∈Ws,∀ t∈w.L,w.now<t.s.due) (hT:Tab w0):qh Tryz.prog w0 93 #[zp bb,zi cpu,zu ((a:Nat):Int)] (HB++H) (fun v H'=>∃ (Ws':List Wl) (HB':qg) (O:List Tm) (XO:qg),zL bb Ws' HB'∧zm 3 1 v O.length ((O.map (·.id)).map (Value.int .i64)) XO∧ZR Ws cpu a Ws' O∧H'=XO++(HB'++H)):=by
 refine qc (l:=[zp bb,zi cpu,zu ((a:Nat):Int)]) Tryz.func93 rfl Tryz.ntmps93 rfl rfl ?_
 refine za 6 rfl ?_
 refine qn (zc2 rfl rfl) Tryz.call176 rfl (of_q (cpu:=cpu) hB (fun p hp=>List.mem_append_left _ hp)) ?_
 rcases hwl:Yl Ws cpu with _ | w
 ·skip
  rw [qcj hwl]
  refine qD rfl rfl ?_
  refine qT (zc2 rfl rfl) Tryz.call181 rfl (T:=fun _=>True) trivial qok ?_
  refine za 2 rfl (qd Tryz.results93 rfl (.nil _) (.refl _) ?_)
  exact ⟨Ws,HB,[],[],hB,.nil,.inl ⟨hwl,rfl,rfl⟩,rfl⟩
 ·skip
  rw [qci hwl]
  obtain ⟨k,hck,hwk⟩:=K8 hwl
  obtain ⟨HW,HR,hW,hs1,hs2⟩:=hB.at hwk
  refine qD rfl rfl ?_
  refine qO (hs1 H) ?_
  refine qk (zc2 rfl rfl) Tryz.call181 rfl (qqa (a:=a) hT hW (hd w (List.mem_of_getElem? hwk)) ha (H:=HR++H)) ?_
  rintro v H' ⟨O,Li,HW',XO,hW',hG,hO,rfl⟩
  obtain ⟨HB',hB',hs3⟩:=hs2 ⟨w.bw,max w.now a,Li,w.turn⟩ HW' rfl hW'
  refine qO (qC.app (Jz.here _) (hs3 H)) ?_
  refine za 2 rfl (qd Tryz.results93 rfl (.nil _) (.refl _) ?_)
  exact ⟨_,HB',O,XO,hB',hO,.inr ⟨k,w,Li,hck,hwk,hG,rfl⟩,rfl⟩
def qjA (Ws:List Wl) (cpu:Int):Nat:=match Yl Ws cpu with
 | some w=>w.now
 | none=>0
theorem qpy {now:Nat} (hW:zP bw now L turn HW) (hm:∀ p∈HW,p∈H):qB Tryz.prog w0 H 177 [zp bw] (zu ((now:Nat):Int)):=by
 cases hW with
 | @mk bm c sl XS bs l h=>exact Now_q (sl:=sl) (bs:=bs) (bm:=bm) (turn:=turn) (hm _ List.mem_cons_self)
theorem qql (hB:zL bb Ws HB) (hm:∀ p∈HB,p∈H) :qB Tryz.prog w0 H 90 [zp bb,zi cpu] (zu ((qjA Ws cpu:Nat):Int)):=by
 refine qc Tryz.func90 rfl Tryz.ntmps90 rfl rfl (za 6 rfl ?_)
 refine qn (zc2 rfl rfl) Tryz.call176 rfl (of_q (cpu:=cpu) hB hm) ?_
 rcases hwl:Yl Ws cpu with _ | w
 ·skip
  rw [qcj hwl]
  refine qT (zc1 rfl) Tryz.call177 rfl (T:=fun _=>True) trivial qot ?_
  refine za 2 rfl ?_
  refine qd (H2:=H) Tryz.results90 rfl (.nil _) zH ?_
  exact ⟨by unfold qjA; rw [hwl]; rfl,rfl⟩
 ·skip
  rw [qci hwl]
  obtain ⟨k,hck,hwk⟩:=K8 hwl
  obtain ⟨HW,hW,hmw⟩:=hB.wheel hwk
  refine qn (zc1 rfl) Tryz.call177 rfl (qpy hW (fun p hp=>hm p (hmw p hp))) ?_
  refine za 2 rfl ?_
  refine qd (H2:=H) Tryz.results90 rfl (.nil _) zH ?_
  exact ⟨by unfold qjA; rw [hwl],rfl⟩
theorem qcF (h:ZT Ws id=some k):∃ w,Ws[k]?=some w∧ZH w.L id=true:=by
 unfold ZT at h
 obtain ⟨h1,h2,_⟩:=List.findIdx?_eq_some_iff_getElem.1 h
 exact ⟨Ws[k],List.getElem?_eq_getElem h1,h2⟩
theorem qhk {now:Nat} (h:zP bw now L turn HW):True:=trivial
theorem qhF (nw:Nat) (hn:nw≤18446744073709551615) (id:Int):¬ (0≤id∧id<256)∨((0≤id∧id<256)∧nw=18446744073709551615)∨((0≤id∧id<256)∧nw<18446744073709551615):=by
 by_cases h1:0≤id∧id<256
 ·rcases Nat.lt_or_eq_of_le hn with h3 | h3
  ·exact .inr (.inr ⟨h1,h3⟩)
  ·exact .inr (.inl ⟨h1,h3⟩)
 ·exact .inl h1
theorem qiv (hW:zP bw nw L turn HW) (hid:0≤id∧id<256) (ha:a≤18446744073709551615) (hnew:id ∉ L.map (·.id)) (hm:nw=18446744073709551615) :
  qh Tryz.prog w0 180 #[zp bw,zi id,zu ((a:Nat):Int)] (HW++H) (fun v H'=>v=.tuple #[.agg qN.v.toArray,zi 12]∧H'=HW++H):=by
 subst hm; exact qml hW hid ha hnew
theorem qmm (hB:zL bb Ws HB) (hn64:Ws.length≤64) (ha:a≤18446744073709551615) (hnow:∀ w∈Ws,w.now≤18446744073709551615) (htn:∀ w∈Ws,w.turn≤4611686018427387904) :qh Tryz.prog w0 92 #[zp bb,zi cpu,zi id,zu ((a:Nat):Int)] (HB++H) (fun v H'=>∃ (Ws':List Wl) (HB':qg) (s:Qu) (e:Int),zL bb Ws' HB'∧v=.tuple #[.agg s.v.toArray,zi e]∧Xt Ws cpu id a Ws' s e∧H'=HB'++H):=by
 refine qc (l:=[zp bb,zi cpu,zi id,zu ((a:Nat):Int)]) Tryz.func92 rfl Tryz.ntmps92 rfl rfl ?_
 refine ze ?_
 refine qp (l:=qN.v) zj rfl rfl (fun b8=>?_)
 refine za 5 rfl ?_
 refine qn (zc2 rfl rfl) Tryz.call176 rfl (of_q (cpu:=cpu) hB (fun p hp=>List.mem_cons_of_mem _ (List.mem_append_left _ hp))) ?_
 rcases hwl:Yl Ws cpu with _ | w
 ·skip
  rw [qcj hwl]
  refine za 6 rfl ?_
  refine W_x (qr rfl rfl JW) (fun _ h=>by cases h) rfl ?_
  refine za 5 rfl ?_
  refine W_x (qr rfl rfl Ze) (fun _ h=>by cases h) rfl ?_
  refine za 4 rfl (qX zj qcf .nil rfl zF rfl ?_)
  refine ql (l':=qN.v) rfl rfl zj rfl rfl (b:=b8) zM (by exact Nat.le_refl 4) rfl zU ?_
  refine za 2 rfl ?_
  refine zc (H2:=HB++H) Tryz.results92 (.nil _) (.own rfl zj rfl zM rfl) (.tmp rfl) zH ?_
  exact ⟨Ws,HB,qN,2,hB,rfl,.cpu hwl,rfl⟩
 ·skip
  rw [qci hwl]
  obtain ⟨k,hck,hwk⟩:=K8 hwl
  refine za 6 rfl ?_
  refine W_x (qr rfl rfl JW) (fun _ h=>by cases h) rfl ?_
  refine za 5 rfl ?_
  refine W_x (qr rfl rfl Ze) (fun _ h=>by cases h) rfl ?_
  refine za 9 rfl ?_
  refine qk (zc2 rfl rfl) Tryz.call98 rfl (qh.hsub (qhi (id:=id) hB hn64 (H:=(b8,.cells 71 4 qN.v)::H)) zH) ?_
  rintro v H' ⟨HB1,hB1,rfl,rfl⟩
  rcases hfk:ZT Ws id with _ | kf
  ·skip
   rw [show Ko Ws id=.tuple #[zi 0,.agg qN.v.toArray,.bool false] from by unfold Ko; rw [hfk]]
   obtain ⟨HW1,HR1,hW1,hs3,hs4⟩:=hB1.at hwk
   have hno:=qlr hfk (List.mem_of_getElem? hwk)
   have hnm:=qhk hW1
   refine za 4 rfl ?_
   refine qp (l:=qN.v) zj rfl rfl (fun b12=>?_)
   refine Ky rfl rfl ?_
   refine ql (l':=qN.v) rfl rfl zj rfl rfl (b:=b12) zM (by exact Nat.le_refl 4) rfl zU ?_
   refine za 8 rfl ?_
   refine qO (H':=HB1++((b8,.cells 71 4 qN.v)::H)) zH ?_
   rcases qhF w.now (hnow w (List.mem_of_getElem? hwk)) id with hr | ⟨hr,hnm2⟩ | ⟨hr,hlt⟩
   ·skip
    refine za 3 rfl ?_
    refine qT (zc3 rfl rfl rfl) Tryz.call180 rfl (T:=fun _=>True) trivial (qiu (bw:=w.bw) (id:=id) (z:=(a:Int)) zO) ?_
    refine za 2 rfl ?_
    refine ql (l':=qN.v) rfl rfl zj rfl rfl (b:=b8) zM (by exact Nat.le_refl 4) rfl zU ?_
    refine za 2 rfl ?_
    refine zc (H2:=HB1++H) Tryz.results92 (.nil _) (.own rfl zj rfl zM rfl) (.tmp rfl) zH ?_
    exact ⟨Ws,HB1,qN,2,hB1,rfl,.range hwl hfk hr,rfl⟩
   ·skip
    refine za 3 rfl ?_
    refine qO (H':=HW1++((b8,.cells 71 4 qN.v)::(HR1++H))) ((hs3 ((b8,.cells 71 4 qN.v)::H)).trans zH) ?_
    refine qk (zc3 rfl rfl rfl) Tryz.call180 rfl (qiv (a:=a) hW1 hr ha hno hnm2 (H:=(b8,.cells 71 4 qN.v)::(HR1++H))) ?_
    rintro v H' ⟨rfl,rfl⟩
    obtain ⟨HB2,hB2,hs5⟩:=hs4 w HW1 rfl hW1
    rw [Z0 hwk] at hB2
    refine qO (H':=(b8,.cells 71 4 qN.v)::(HB2++H)) ((show qC _ ((b8,.cells 71 4 qN.v)::(HW1++(HR1++H))) from zH).trans (.cons (.here _) (hs5 H))) ?_
    refine za 2 rfl ?_
    refine ql (l':=qN.v) rfl rfl zj rfl rfl (b:=b8) zM (by exact Nat.le_refl 4) rfl zU ?_
    refine za 2 rfl ?_
    refine zc (H2:=HB2++H) Tryz.results92 (.nil _) (.own rfl zj rfl zM rfl) (.tmp rfl) zH ?_
    exact ⟨Ws,HB2,qN,12,hB2,rfl,.late hwl hfk hr hnm2,rfl⟩
   ·skip
    refine za 3 rfl ?_
    refine qO (H':=HW1++((b8,.cells 71 4 qN.v)::(HR1++H))) ((hs3 ((b8,.cells 71 4 qN.v)::H)).trans zH) ?_
    refine qk (zc3 rfl rfl rfl) Tryz.call180 rfl (Put_L (a:=a) hW1 hlt ha hr hno (htn w (List.mem_of_getElem? hwk)) (H:=(b8,.cells 71 4 qN.v)::(HR1++H))) ?_
    rintro v H' ⟨HW2,hW2,rfl,rfl⟩
    obtain ⟨HB2,hB2,hs5⟩:=hs4 ⟨w.bw,w.now,w.L++[qfx w.now a w.turn id],w.turn+1⟩ HW2 rfl hW2
    refine qO (H':=(b8,.cells 71 4 qN.v)::(HB2++H)) ((show qC _ ((b8,.cells 71 4 qN.v)::(HW2++(HR1++H))) from zH).trans (.cons (.here _) (hs5 H))) ?_
    refine za 2 rfl ?_
    refine ql (l':=(Qq w.now a).1.v) rfl rfl zj rfl rfl (b:=b8) zM (by exact Nat.le_refl 4) rfl zU ?_
    refine za 2 rfl ?_
    refine zc (H2:=HB2++H) Tryz.results92 (.nil _) (.own rfl zj rfl zM rfl) (.tmp rfl) zH ?_
    exact ⟨_,HB2,_,0,hB2,rfl,.ok hck hwk hfk hr hlt,rfl⟩
  ·skip
   obtain ⟨wf,hwf,hfh⟩:=qcF hfk
   rw [show Ko Ws id=.tuple #[zi (kf:Int),.agg (ZB wf.L id).v.toArray,.bool true] from by unfold Ko; rw [hfk]; dsimp only; rw [hwf]]
   refine za 4 rfl ?_
   refine qp (l:=qN.v) zj rfl rfl (fun b12=>?_)
   refine Ky rfl rfl ?_
   refine ql (l':=(ZB wf.L id).v) rfl rfl zj rfl rfl (b:=b12) zM (by exact Nat.le_refl 4) rfl zU ?_
   refine za 7 rfl (qX zj qcf .nil rfl zF rfl ?_)
   refine ql (l':=qN.v) rfl rfl zj rfl rfl (b:=b8) zM (by exact Nat.le_refl 4) rfl zU ?_
   refine za 2 rfl ?_
   refine zc (H2:=HB1++H) Tryz.results92 (.nil _) (.own rfl zj rfl zM rfl) (.tmp rfl) zH ?_
   exact ⟨Ws,HB1,qN,5,hB1,rfl,.twice hwl hfk,rfl⟩
theorem qh9 {x y:Value}:Qx Tryz.prog (fun _=>True) 263 [x,y] (.bool true):=by
 intro w0 H hT
 refine qc Tryz.func263 rfl Tryz.ntmps263 rfl rfl (za 6 rfl ?_)
 refine qd (H2:=H) Tryz.results263 rfl (.nil _) zH ?_
 exact ⟨rfl,rfl⟩
theorem zL.lens (h:zL bb Ws HB):∀ w∈Ws,w.L.length≤256:=fun w hw=>by
 obtain ⟨k,hk,e⟩:=List.getElem_of_mem hw
 obtain ⟨HW,hW,_⟩:=h.wheel (k:=k) (w:=w) (by rw [List.getElem?_eq_getElem hk,e])
 exact hW.ids.2.2.2
def Yr (l:List Int) (w:Wl):Wl:=⟨w.bw,w.now,(QO w.L l).1,w.turn⟩
def qbE (Ws:List Wl) (l:List Int) (k:Nat):List Wl:=(Ws.take k).map (Yr l)++Ws.drop k
theorem qlG (Ws:List Wl) (l:List Int) (k:Nat):(qbE Ws l k).length=Ws.length:=by
 unfold qbE
 rw [List.length_append,List.length_map,List.length_take,List.length_drop]; omega
theorem qnX (h:Ws[k]?=some w):(qbE Ws l k)[k]?=some w:=by
 have hk:=(List.getElem?_eq_some_iff.1 h).1
 unfold qbE
 rw [List.getElem?_append_right (by rw [List.length_map,List.length_take]; omega),List.length_map,List.length_take,Nat.min_eq_left (by omega),Nat.sub_self,List.getElem?_drop,Nat.add_zero,h]
theorem qlF (h:Ws[k]?=some w):(qbE Ws l k).set k (Yr l w)=qbE Ws l (k+1):=by
 have hk:=(List.getElem?_eq_some_iff.1 h).1
 have e:Ws.drop k=w::Ws.drop (k+1):=by
  rw [List.drop_eq_getElem_cons hk,(List.getElem?_eq_some_iff.1 h).2]
 unfold qbE
 rw [Jt h,List.map_append,e,List.set_append_right _ _ (by rw [List.length_map,List.length_take]; omega),List.length_map,List.length_take,Nat.min_eq_left (by omega),Nat.sub_self]
 simp
theorem qlH (Ws:List Wl) (l:List Int):qbE Ws l Ws.length=Ws.map (Yr l):=by
 unfold qbE
 rw [List.take_length,List.drop_length,List.append_nil]
def Yf (Ws:List Wl) (l:List Int):Nat→Nat
 | 0=>0
 | k+1=>Yf Ws l k+match Ws[k]? with
  | some w=>(QO w.L l).2
  | none=>0
theorem qn0 (h:Ws[k]?=some w):Yf Ws l (k+1)=Yf Ws l k+(QO w.L l).2:=by
 show Yf Ws l k+(match Ws[k]? with | some w=>(QO w.L l).2 | none=>0)=_
 rw [h]
theorem qdp (L:List Tm) (l:List Int):(QO L l).2≤l.length:=by
 have:=qcJ L l l.length (Nat.le_refl _)
 rwa [List.take_length] at this
theorem qed (Ws:List Wl) (l:List Int):∀ k,Yf Ws l k≤k*l.length
 | 0=>Nat.zero_le _
 | k+1=>by
  have ih:=qed Ws l k
  rw [Nat.add_mul]
  show Yf Ws l k+(match Ws[k]? with | some w=>(QO w.L l).2 | none=>0)≤_
  refine Nat.add_le_add ih ?_
  cases hk:Ws[k]? with
  | none=>exact Nat.zero_le _
  | some w=>exact Nat.le_trans (qdp w.L l) (Nat.le_of_eq (Nat.one_mul _).symm)
theorem qgp (hB:zL bb Ws HB) (hn64:Ws.length≤64) (hl:l.length≤4611686018427387904) (hl2:l.length≤1000000) (hrow:Holds w0 H ad (l.map (Value.int .i64))) :qh Tryz.prog w0 178 #[zp bb,.slice ad l.length cap] (HB++H) (fun v H'=>∃ HB',zL bb (Ws.map (Yr l)) HB'∧v=zi (Yf Ws l Ws.length:Nat)∧H'=HB'++H):=by
 refine qc (l:=[zp bb,.slice ad l.length cap]) Tryz.func178 rfl Tryz.ntmps178 rfl rfl ?_
 refine ze ?_
 refine qK (l:=[.slice ad l.length cap]) rfl rfl rfl (fun b3=>?_)
 refine za 3 rfl ?_
 refine qp (l:=[zi 0]) ty3 rfl rfl (fun b5=>?_)
 refine qv (l':=[zi 0]) rfl rfl ty3 rfl rfl (b:=b5) zM rfl rfl zU ?_
 refine za 4 rfl ?_
 refine qk (zc2 rfl rfl) Tryz.call188 rfl (qi0 (b:=zp bb) (f:=(Value.func (.func 263) #[] #[])) rfl rfl) ?_
 rintro v H' ⟨b2_,b3_,rfl,rfl⟩
 refine za 2 rfl (Qp rfl Tryz.call271 ?_)
 intro lp D r hst hpd hps hasg hbody hA
 have hr:=QC hst hpd
 show qh _ _ _ #[_,_,_] _ _
 refine ((qda (b2:=b2_) (b3:=b3_) (bb:=bb) (n:=Ws.length) (fi:=263) (ca:=[]) (Ws0:=Ws) (HB0:=HB) (H:=(lp,.obj (.loop r))::(D,.obj (.deferred (some [])))::(b5,.cells 3 1 [zi (0:Int)])::(b3,.cells 63 1 [.slice ad l.length cap])::H) (fun k Ws2 Hr=>Ws2=qbE Ws l k∧Hr=(lp,.obj (.loop r))::(D,.obj (.deferred (some [])))::(b5,.cells 3 1 [zi ((Yf Ws l k:Nat):Int)])::(b3,.cells 63 1 [.slice ad l.length cap])::H) (fun _ _=>False) (fun _ _=>true) Tryz.call263 hn64 (fun k Ws' Hr hJ=>by rw [hJ.1,qlG]) (fun k Ws2 HB2 Hr w hk hw hB2 hJ=>qh9.at trivial) (fun k Ws2 Hr w hk hw hJ hs=>by cases hs) ?_ hB ⟨by unfold qbE; rw [List.take_zero,List.drop_zero]; rfl,rfl⟩).hsub zH).mono ?_
 ·intro k Ws2 HB2 Hr w hk hw hB2 hJ hs
  obtain ⟨rfl,rfl⟩:=hJ
  obtain ⟨w2,hw2⟩:∃ w2,Ws[k]?=some w2:=⟨_,List.getElem?_eq_getElem hk⟩
  obtain rfl:w=w2:=Option.some.inj (hw.symm.trans (qnX hw2))
  obtain ⟨HW,HR,hW,hs1,hs2⟩:=hB2.at hw
  have hc1:=qed Ws l k
  have hc2:=qdp w.L l
  have hc3:=qn0 (l:=l) hw2
  have hc4:k*l.length≤64*l.length:=Nat.mul_le_mul_right _ zO
  refine Qo hst hpd hA hps rfl hasg rfl rfl rfl zT ?_
  refine za 3 rfl (Jf hst hpd zT hbody (qeh ?_))
  refine Rd.W_anyS [(b5,.cells 3 1 [zi ((Yf Ws l k:Nat):Int)]),(b3,.cells 63 1 [.slice ad l.length cap])] 5 zk ?_
  refine Rd.WS_take 0 (l':=#[true,false,false,false,false,false]) rfl rfl zK zK zK zK zK rfl zK (qj (v:=zi (Yf Ws l k:Nat)) rfl ty3 rfl (qf.own (b:=b5) zM rfl)) rfl ?_
  refine Rd.WS_take 1 (l':=#[true,true,false,false,false,false]) rfl rfl zK zK zK zK zK rfl zK (zf rfl) rfl ?_
  refine Rd.WS_take 2 (l':=#[true,true,true,false,false,false]) rfl rfl zK zK zK zK zK rfl zK (qj (v:=.slice ad l.length cap) rfl qZ rfl (qf.own (b:=b3) zM rfl)) rfl ?_
  refine Rd.WS_one 3 zH rfl zK rfl rfl ?_
  refine qO (H':=HW++(HR++((lp,.obj (.loop (Loop.at r .busy none)))::(b2_,.cells 167 1 [zp bb])::(b3_,.cells 285 1 [(Value.func (.func 263) #[] #[])])::(D,.obj (.deferred (some [])))::(b5,.cells 3 1 [zi ((Yf Ws l k:Nat):Int)])::(b3,.cells 63 1 [.slice ad l.length cap])::H))) ((show qC _ (HB2++((lp,.obj (.loop (Loop.at r .busy none)))::(b2_,.cells 167 1 [zp bb])::(b3_,.cells 285 1 [(Value.func (.func 263) #[] #[])])::(D,.obj (.deferred (some [])))::(b5,.cells 3 1 [zi ((Yf Ws l k:Nat):Int)])::(b3,.cells 63 1 [.slice ad l.length cap])::H)) from zH).trans (hs1 _)) ?_
  refine qk (zc2 rfl rfl) Tryz.call264 rfl (qo0 (l:=l) hW hl (H:=HR++((lp,.obj (.loop (Loop.at r .busy none)))::(b2_,.cells 167 1 [zp bb])::(b3_,.cells 285 1 [(Value.func (.func 263) #[] #[])])::(D,.obj (.deferred (some [])))::(b5,.cells 3 1 [zi ((Yf Ws l k:Nat):Int)])::(b3,.cells 63 1 [.slice ad l.length cap])::H)) (hrow.up zH)) ?_
  rintro v H' ⟨HW',hW',rfl,rfl⟩
  obtain ⟨HB3,hB3,hs3⟩:=hs2 (Yr l w) HW' rfl hW'
  rw [qlF hw2] at hB3
  refine qO (hs3 _) ?_
  refine qs ?_
  refine Rd.WS_goal ?_
  refine Rd.WS_take 4 (l':=#[true,true,true,true,true,false]) rfl rfl zK zK zK zK zK rfl zK (QU rfl rfl (qQ (m:=((Yf Ws l (k+1):Nat):Int)) (by rw [zg (by omega)]; omega))) rfl ?_
  refine Rd.WS_last zH zK rfl rfl ?_
  refine qv (l':=[zi (Yf Ws l (k+1):Nat)]) rfl rfl ty3 rfl rfl (b:=b5) zM rfl rfl zU ?_
  refine qs ?_
  refine Rd.WC_goal ?_
  refine Rd.WC_done (.nil _) zK ?_
  refine qhd (Qs zT ?_)
  rw [hr]
  exact ⟨qbE Ws l (k+1),HB3,(lp,.obj (.loop r))::(D,.obj (.deferred (some [])))::(b5,.cells 3 1 [zi ((Yf Ws l (k+1):Nat):Int)])::(b3,.cells 63 1 [.slice ad l.length cap])::H,hB3,zH,.inl ⟨rfl,rfl,rfl⟩⟩
 ·intro _ H' hp
  obtain ⟨Ws2,HB2,Hr,hB2,hs,hJS⟩:=hp
  obtain ⟨rfl,rfl⟩:=hJS.resolve_right (fun h=>h)
  rw [qlH] at hB2
  refine ⟨.ready,none,(b2_,.cells 167 1 [zp bb])::(b3_,.cells 285 1 [(Value.func (.func 263) #[] #[])])::(HB2++((D,.obj (.deferred (some [])))::(b5,.cells 3 1 [zi ((Yf Ws l Ws.length:Nat):Int)])::(b3,.cells 63 1 [.slice ad l.length cap])::H)),by rw [hr]; exact hs.trans zH,by decide,?_⟩
  show W _ _ _ _ _ _ _ _ _
  refine za 2 rfl ?_
  refine qe (v:=zi (Yf Ws l Ws.length:Nat)) rfl ty3 rfl (qf.own (b:=b5) zM rfl) rfl ?_
  refine za 2 rfl ?_
  refine qd (H2:=HB2++H) Tryz.results178 rfl (.cons zT (.nil _)) zH ?_
  exact ⟨HB2,hB2,rfl,rfl⟩
theorem Xt.ok_of {Ws':List Wl} {e:Int} {s:Qu} (h:Xt Ws cpu id a Ws' s e) (hc:cpu=(k:Int)) (hk:Ws[k]?=some w) (hf:ZT Ws id=none) (hr:0≤id∧id<256) (hm:w.now<18446744073709551615):Ws'=Ws.set k ⟨w.bw,w.now,w.L++[qfx w.now a w.turn id],w.turn+1⟩∧s=(Qq w.now a).1∧e=0:=by
 have hw:Yl Ws cpu=some w:=by unfold Yl; rw [if_pos (by omega),show cpu.toNat=k by omega,hk]
 cases h with
 | cpu h=>rw [hw] at h; cases h
 | twice h h2=>rw [hf] at h2; cases h2
 | range h _ h2=>exact absurd hr h2
 | late h _ _ h2 =>
  rw [hw] at h
  obtain rfl:=Option.some.inj h
  omega
 | @ok k2 w2 hc2 hk2 _ _ _ =>
  obtain rfl:k=k2:=by omega
  obtain rfl:w=w2:=Option.some.inj (hk.symm.trans hk2)
  exact ⟨rfl,rfl,rfl⟩
end Go.Proofs.YtincjohoncljoaaGreatDoor
