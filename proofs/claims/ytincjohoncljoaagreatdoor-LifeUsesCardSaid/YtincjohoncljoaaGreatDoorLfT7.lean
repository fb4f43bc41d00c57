/-
  Own work: contracts of functions that the statement reaches, and plain facts on what they compute; each theorem says its conditions.
-/
import Derived.Test.YtincjohoncljoaaGreatDoorLfT6
import Derived.Test.YtincjohoncljoaaGreatDoorLfS1
import Derived.Test.YtincjohoncljoaaGreatDoorLfT1
import Derived.Test.YtincjohoncljoaaGreatDoorLfS2
import Derived.Test.YtincjohoncljoaaGreatDoorShelf
import Derived.WalkSmall
import Derived.IntWalk
import Derived.Test.YtincjohoncljoaaGreatDoorLfA
set_option linter.all false
set_option linter.unusedSimpArgs false
set_option linter.unusedVariables false
set_option maxHeartbeats 16000000
namespace Go.Proofs.YtincjohoncljoaaGreatDoor
open Go Go.Sl
attribute [local irreducible] W
theorem Put_LX {w0:World} {H:Heap} {ab sb u f i:Nat} {L:List Slt} (hu:TellsA 1 L u) (hf:TellsA 0 L f) (hk:AreOk L) {s:Slt} (hfi:firstF L=some i) (hs:L[i]?=some s) {c:Cel} (hT:Tab w0):LCalls Tryz.prog w0 241 #[.pointer (some ⟨ab,0,none⟩),.agg (List.toArray (celC c))] ((ab,.cells 345 3 [.slice (some ⟨sb,0,none⟩) L.length L.length,.int .u64 ((u:Nat):Int),.int .u64 ((f:Nat):Int)])::(sb,.cells 377 (L.length*7) ((L).flatMap sltC))::H) (fun v H'=>∃ u' f',v=.tuple #[.agg (List.toArray (hdC s.own)),.int .i64 0]∧TellsA 1 (L.set i ({ s with st:=1,cel:=c }:Slt)) u'∧TellsA 0 (L.set i ({ s with st:=1,cel:=c }:Slt)) f'∧H'=(ab,.cells 345 3 [.slice (some ⟨sb,0,none⟩) L.length L.length,.int .u64 ((u':Nat):Int),.int .u64 ((f':Nat):Int)])::(sb,.cells 377 (L.length*7) ((L.set i ({ s with st:=1,cel:=c }:Slt)).flatMap sltC))::H):=by
 have h0:s.st=0:=by
  obtain ⟨s',hs',h0,-⟩:=firstF_some hfi
  obtain rfl:s=s':=Option.some.inj (hs.symm.trans hs')
  exact h0
 have hi:=(List.getElem?_eq_some_iff.1 hs).1
 have hlen:=hk.len
 refine L_enter (l:=[.pointer (some ⟨ab,0,none⟩),.agg (List.toArray (celC c))]) Tryz.func241 rfl Tryz.ntmps241 rfl rfl ?_
 refine W_sr ?_
 refine W_box rfl rfl rfl (fun b3=>?_)
 refine W_alloc (l:=hdC zHd) ty40 rfl rfl (fun b4=>?_)
 refine W_assign rfl rfl (W_nil (W_seq (W_sr (W_move rfl rfl ?_))))
 refine W_x (X_ptrNil rfl rfl ty213) (fun _ h=>by cases h) rfl ?_
 refine W_nil (W_condF rfl rfl (W_skip (W_sr (W_move rfl rfl (W_nilCheck rfl rfl (W_fieldAddr rfl fld345_2 zd rfl ?_))))))
 refine W_load (v:=.int .u64 (f:Int)) rfl ty247 rfl (Cell.own (b:=ab) zM rfl) rfl ?_
 refine W_callp (.cons rfl (.cons rfl .nil)) Tryz.call334 rfl hT (next_pure (m:=f) (f:=0) hf.1) ?_
 rw [show nextV f 0=.tuple #[.int .i64 (i:Int),.bool true] from by unfold nextV; rw [next_tells hf hlen.2,hfi]]
 refine W_move rfl rfl (W_extract rfl rfl rfl (W_extract rfl rfl rfl (W_assign rfl rfl (W_assign rfl rfl (W_nil (W_seq (W_sr (W_move rfl rfl (W_not rfl rfl ?_)))))))))
 refine W_nil (W_condF rfl rfl (W_skip (W_seq ?_)))
 refine W_cut [(0,.pointer (some ⟨ab,0,none⟩)),(3,.pointer (some ⟨b3,0,none⟩)),(4,.pointer (some ⟨b4,0,none⟩)),(6,.int .i64 (i:Int))] ((ab,.cells 345 3 [.slice (some ⟨sb,0,none⟩) L.length L.length,.int .u64 ((withL u [(i:Int)]:Nat):Int),.int .u64 ((outL f [(i:Int)]:Nat):Int)])::(sb,.cells 377 (L.length*7) ((L).flatMap sltC))::(b4,.cells 40 2 (hdC zHd))::(b3,.cells 220 5 (celC c))::H) ?_ ?_
 ·skip
  refine W_anyS [(ab,.cells 345 3 [.slice (some ⟨sb,0,none⟩) L.length L.length,.int .u64 ((u:Nat):Int),.int .u64 ((f:Nat):Int)])] 18 zk ?_
  refine WS_take 0 rfl rfl zK zK zK zK rfl rfl (X_move rfl) rfl ?_
  refine WS_takeP 1 (l':=#[true,true,false,false,false,false,false,false,false,false,false,false,false,false,false,false,false,false,false,false,false,false]) rfl rfl zK zK zK rfl zK (X_move rfl) rfl ?_
  refine WS_take 2 rfl rfl zK zK zK zK rfl rfl (X_move rfl) rfl ?_
  refine WS_take 3 rfl rfl zK zK zK zK rfl rfl (X_nilCheck rfl) rfl ?_
  refine WS_take 4 rfl rfl zK zK zK zK rfl rfl (X_fieldAddr rfl fld345_1 zd) rfl ?_
  refine WS_take 5 rfl rfl zK zK zK zK rfl rfl (X_load (v:=.int .u64 (u:Int)) rfl ty247 rfl (Cell.own (b:=ab) zM rfl)) rfl ?_
  refine WS_take 6 rfl rfl zK zK zK zK rfl rfl (X_move rfl) rfl ?_
  refine WS_takeP 9 (l':=#[true,true,true,true,true,true,true,false,false,true,false,false,false,false,false,false,false,false,false,false,false,false]) rfl rfl zK zK zK rfl zK (X_move rfl) rfl ?_
  refine WS_takeP 10 (l':=#[true,true,true,true,true,true,true,false,false,true,true,false,false,false,false,false,false,false,false,false,false,false]) rfl rfl zK zK zK rfl zK (X_nilCheck rfl) rfl ?_
  refine WS_takeP 11 (l':=#[true,true,true,true,true,true,true,false,false,true,true,true,false,false,false,false,false,false,false,false,false,false]) rfl rfl zK zK zK rfl zK (X_fieldAddr rfl fld345_2 zd) rfl ?_
  refine WS_take 12 rfl rfl zK zK zK zK rfl rfl (X_load (v:=.int .u64 (f:Int)) rfl ty247 rfl (Cell.own (b:=ab) zM rfl)) rfl ?_
  refine WS_takeP 13 (l':=#[true,true,true,true,true,true,true,false,false,true,true,true,true,true,false,false,false,false,false,false,false,false]) rfl rfl zK zK zK rfl zK (X_move rfl) rfl ?_
  refine WS_two 7 14 (l':=#[true,true,true,true,true,true,true,true,false,true,true,true,true,true,false,false,false,false,false,false,false,false]) (l'':=#[true,true,true,true,true,true,true,false,false,true,true,true,true,true,true,false,false,false,false,false,false,false]) zH rfl rfl zK rfl rfl zK zK ?_ ?_
  ·skip
   refine W_buildSlice (l:=[.int .i64 (i:Int)]) ty63 ty3 (.cons rfl rfl rfl rfl rfl .nil) rfl rfl rfl rfl rfl rfl rfl (fun b29=>?_)
   refine W_nil ?_
   refine WS_goal ?_
   refine WS_two 8 14 (l':=#[true,true,true,true,true,true,true,true,true,true,true,true,true,true,false,false,false,false,false,false,false,false]) (l'':=#[true,true,true,true,true,true,true,true,false,true,true,true,true,true,true,false,false,false,false,false,false,false]) zH rfl rfl zK rfl rfl zK zK ?_ ?_
   ·skip
    refine W_callq (.cons rfl (.cons rfl .nil)) Tryz.call232 rfl (with_q (m:=u) (l:=[(i:Int)]) (cap:=1) hu.1 (by show 1≤4611686018427387904; decide) (Holds.own (b:=b29) zM)) ?_
    refine W_nil ?_
    refine WS_goal ?_
    refine WS_one 14 zH rfl zK rfl rfl ?_
    refine W_buildSlice (l:=[.int .i64 (i:Int)]) ty63 ty3 (.cons rfl rfl rfl rfl rfl .nil) rfl rfl rfl rfl rfl rfl rfl (fun b36=>?_)
    refine W_nil ?_
    refine WS_goal ?_
    refine WS_one 15 zH rfl zK rfl rfl ?_
    refine W_callq (.cons rfl (.cons rfl .nil)) Tryz.call141 rfl (out_q (m:=f) (l:=[(i:Int)]) (cap:=1) hf.1 (by show 1≤4611686018427387904; decide) (Holds.own (b:=b36) zM)) ?_
    refine W_nil ?_
    refine WS_goal ?_
    refine WS_takeP 16 (l':=#[true,true,true,true,true,true,true,true,true,true,true,true,true,true,true,true,true,false,false,false,false,false]) rfl rfl zK zK zK rfl zK (X_nilCheck rfl) rfl ?_
    refine WS_take 17 rfl rfl zK zK zK zK rfl rfl (X_fieldAddr rfl fld345_1 zd) rfl ?_
    refine WS_last (l':=#[true,true,true,true,true,true,true,true,true,true,true,true,true,true,true,true,true,true,true,false,false,false]) zH zK rfl zK ?_
    refine W_store (l':=[.slice (some ⟨sb,0,none⟩) L.length L.length,.int .u64 ((withL u [(i:Int)]:Nat):Int),.int .u64 ((f:Nat):Int)]) rfl rfl ty247 rfl rfl (b:=ab) zM rfl rfl zU ?_
    refine W_nil ?_
    refine WC_goal ?_
    refine WC_take 19 rfl zK zK zK rfl rfl (X_nilCheck rfl) rfl ?_
    refine WC_take 20 rfl zK zK zK rfl rfl (X_fieldAddr rfl fld345_2 zd) rfl ?_
    refine WC_one 21 (l':=#[true,true,true,true,true,true,true,true,true,true,true,true,true,true,true,true,true,true,true,true,true,true]) (.nil _) zK rfl zK ?_
    refine W_store (l':=[.slice (some ⟨sb,0,none⟩) L.length L.length,.int .u64 ((withL u [(i:Int)]:Nat):Int),.int .u64 ((outL f [(i:Int)]:Nat):Int)]) rfl rfl ty247 rfl rfl (b:=ab) zM rfl rfl zU ?_
    refine W_nil ?_
    refine WC_goal ?_
    refine WC_done (.nil _) zK ?_
    refine W_joined (sub_cons rfl (sub_cons rfl (sub_cons rfl (sub_cons rfl (sub_nil _))))) zH
   ·skip
    refine W_buildSlice (l:=[.int .i64 (i:Int)]) ty63 ty3 (.cons rfl rfl rfl rfl rfl .nil) rfl rfl rfl rfl rfl rfl rfl (fun b36=>?_)
    refine W_nil ?_
    refine WS_goal ?_
    refine WS_one 8 zH rfl zK rfl rfl ?_
    refine W_callq (.cons rfl (.cons rfl .nil)) Tryz.call232 rfl (with_q (m:=u) (l:=[(i:Int)]) (cap:=1) hu.1 (by show 1≤4611686018427387904; decide) (Holds.own (b:=b29) zM)) ?_
    refine W_nil ?_
    refine WS_goal ?_
    refine WS_one 15 zH rfl zK rfl rfl ?_
    refine W_callq (.cons rfl (.cons rfl .nil)) Tryz.call141 rfl (out_q (m:=f) (l:=[(i:Int)]) (cap:=1) hf.1 (by show 1≤4611686018427387904; decide) (Holds.own (b:=b36) zM)) ?_
    refine W_nil ?_
    refine WS_goal ?_
    refine WS_takeP 16 (l':=#[true,true,true,true,true,true,true,true,true,true,true,true,true,true,true,true,true,false,false,false,false,false]) rfl rfl zK zK zK rfl zK (X_nilCheck rfl) rfl ?_
    refine WS_take 17 rfl rfl zK zK zK zK rfl rfl (X_fieldAddr rfl fld345_1 zd) rfl ?_
    refine WS_last (l':=#[true,true,true,true,true,true,true,true,true,true,true,true,true,true,true,true,true,true,true,false,false,false]) zH zK rfl zK ?_
    refine W_store (l':=[.slice (some ⟨sb,0,none⟩) L.length L.length,.int .u64 ((withL u [(i:Int)]:Nat):Int),.int .u64 ((f:Nat):Int)]) rfl rfl ty247 rfl rfl (b:=ab) zM rfl rfl zU ?_
    refine W_nil ?_
    refine WC_goal ?_
    refine WC_take 19 rfl zK zK zK rfl rfl (X_nilCheck rfl) rfl ?_
    refine WC_take 20 rfl zK zK zK rfl rfl (X_fieldAddr rfl fld345_2 zd) rfl ?_
    refine WC_one 21 (l':=#[true,true,true,true,true,true,true,true,true,true,true,true,true,true,true,true,true,true,true,true,true,true]) (.nil _) zK rfl zK ?_
    refine W_store (l':=[.slice (some ⟨sb,0,none⟩) L.length L.length,.int .u64 ((withL u [(i:Int)]:Nat):Int),.int .u64 ((outL f [(i:Int)]:Nat):Int)]) rfl rfl ty247 rfl rfl (b:=ab) zM rfl rfl zU ?_
    refine W_nil ?_
    refine WC_goal ?_
    refine WC_done (.nil _) zK ?_
    refine W_joined (sub_cons rfl (sub_cons rfl (sub_cons rfl (sub_cons rfl (sub_nil _))))) zH
  ·skip
   refine W_buildSlice (l:=[.int .i64 (i:Int)]) ty63 ty3 (.cons rfl rfl rfl rfl rfl .nil) rfl rfl rfl rfl rfl rfl rfl (fun b36=>?_)
   refine W_nil ?_
   refine WS_goal ?_
   refine WS_one 7 zH rfl zK rfl rfl ?_
   refine W_buildSlice (l:=[.int .i64 (i:Int)]) ty63 ty3 (.cons rfl rfl rfl rfl rfl .nil) rfl rfl rfl rfl rfl rfl rfl (fun b29=>?_)
   refine W_nil ?_
   refine WS_goal ?_
   refine WS_one 8 zH rfl zK rfl rfl ?_
   refine W_callq (.cons rfl (.cons rfl .nil)) Tryz.call232 rfl (with_q (m:=u) (l:=[(i:Int)]) (cap:=1) hu.1 (by show 1≤4611686018427387904; decide) (Holds.own (b:=b29) zM)) ?_
   refine W_nil ?_
   refine WS_goal ?_
   refine WS_one 15 zH rfl zK rfl rfl ?_
   refine W_callq (.cons rfl (.cons rfl .nil)) Tryz.call141 rfl (out_q (m:=f) (l:=[(i:Int)]) (cap:=1) hf.1 (by show 1≤4611686018427387904; decide) (Holds.own (b:=b36) zM)) ?_
   refine W_nil ?_
   refine WS_goal ?_
   refine WS_takeP 16 (l':=#[true,true,true,true,true,true,true,true,true,true,true,true,true,true,true,true,true,false,false,false,false,false]) rfl rfl zK zK zK rfl zK (X_nilCheck rfl) rfl ?_
   refine WS_take 17 rfl rfl zK zK zK zK rfl rfl (X_fieldAddr rfl fld345_1 zd) rfl ?_
   refine WS_last (l':=#[true,true,true,true,true,true,true,true,true,true,true,true,true,true,true,true,true,true,true,false,false,false]) zH zK rfl zK ?_
   refine W_store (l':=[.slice (some ⟨sb,0,none⟩) L.length L.length,.int .u64 ((withL u [(i:Int)]:Nat):Int),.int .u64 ((f:Nat):Int)]) rfl rfl ty247 rfl rfl (b:=ab) zM rfl rfl zU ?_
   refine W_nil ?_
   refine WC_goal ?_
   refine WC_take 19 rfl zK zK zK rfl rfl (X_nilCheck rfl) rfl ?_
   refine WC_take 20 rfl zK zK zK rfl rfl (X_fieldAddr rfl fld345_2 zd) rfl ?_
   refine WC_one 21 (l':=#[true,true,true,true,true,true,true,true,true,true,true,true,true,true,true,true,true,true,true,true,true,true]) (.nil _) zK rfl zK ?_
   refine W_store (l':=[.slice (some ⟨sb,0,none⟩) L.length L.length,.int .u64 ((withL u [(i:Int)]:Nat):Int),.int .u64 ((outL f [(i:Int)]:Nat):Int)]) rfl rfl ty247 rfl rfl (b:=ab) zM rfl rfl zU ?_
   refine W_nil ?_
   refine WC_goal ?_
   refine WC_done (.nil _) zK ?_
   refine W_joined (sub_cons rfl (sub_cons rfl (sub_cons rfl (sub_cons rfl (sub_nil _))))) zH
 refine W_seq ?_
 refine W_anyC [(ab,.cells 345 3 [.slice (some ⟨sb,0,none⟩) L.length L.length,.int .u64 ((withL u [(i:Int)]:Nat):Int),.int .u64 ((outL f [(i:Int)]:Nat):Int)]),(b3,.cells 220 5 (celC c))] zk ?_
 refine WC_take 0 rfl zK zK zK rfl rfl (X_move rfl) rfl ?_
 refine WC_take 1 rfl zK zK zK rfl rfl (X_nilCheck rfl) rfl ?_
 refine WC_take 2 rfl zK zK zK rfl rfl (X_fieldAddr rfl fld345_0 zd) rfl ?_
 refine WC_take 3 rfl zK zK zK rfl rfl (X_load (v:=.slice (some ⟨sb,0,none⟩) L.length L.length) rfl ty343 rfl (Cell.own (b:=ab) zM rfl)) rfl ?_
 refine WC_take 4 rfl zK zK zK rfl rfl (X_move rfl) rfl ?_
 refine WC_take 5 rfl zK zK zK rfl rfl (X_loadB (vs:=celC (c)) rfl ty220 rfl (b:=b3) zM rfl rfl) rfl ?_
 refine WC_take 6 (l':=#[true,true,true,true,true,true,true,false,false]) rfl (by decide +kernel) (by decide +kernel) (by decide +kernel) rfl (by decide +kernel) (X_indexAddr (j:=i) rfl rfl ty343 ty377 (by first | rfl | omega) (by first | decide | omega | simp) rfl) rfl ?_
 refine WC_take 7 rfl zK zK zK rfl rfl (X_fieldAddr rfl fld377_1 zd) rfl ?_
 refine WC_one 8 zH zK rfl rfl ?_
 refine W_storeA (l':=(L.set i ({ s with cel:=c }:Slt)).flatMap sltC) rfl rfl ty220 rfl rfl (b:=sb) zM (by show 0+i*7+2+5≤_; rw [rows_len sltC_len]; omega) (by rw [Nat.zero_add]; exact rows_spl (o:=2) (vs:=celC c) sltC_len hs (by exact Nat.le_refl 7) rfl) zU ?_
 refine W_nil ?_
 refine WC_goal ?_
 refine WC_done zH zK ?_
 refine W_sr (W_move rfl rfl (W_nilCheck rfl rfl (W_fieldAddr rfl fld345_0 zd rfl ?_)))
 refine W_load (v:=.slice (some ⟨sb,0,none⟩) L.length L.length) rfl ty343 rfl (Cell.own (b:=ab) zM rfl) rfl ?_
 refine W_move rfl rfl ?_
 refine W_indexAddr (j:=i) rfl rfl ty343 ty377 (by first | rfl | omega) (by first | decide | omega | simp) rfl rfl ?_
 refine W_fieldAddr rfl fld377_0 zd rfl ?_
 refine W_loadB (vs:=hdC s.own) rfl ty40 rfl (b:=sb) zM (by rw [Nat.ble_eq,rows_len sltC_len,List.length_set]; omega) (by rw [Nat.zero_add]; exact (rows_part (o:=0) (m:=2) sltC_len (x:=({ s with cel:=c }:Slt)) (List.getElem?_set_self hi) (by decide))) rfl ?_
 refine W_storeA (l':=hdC s.own) rfl rfl ty40 rfl rfl (b:=b4) zM (by exact Nat.le_refl 2) rfl zU ?_
 refine W_assign rfl rfl (W_nil (W_ret2G (H2:=(ab,.cells 345 3 [.slice (some ⟨sb,0,none⟩) L.length L.length,.int .u64 ((withL u [(i:Int)]:Nat):Int),.int .u64 ((outL f [(i:Int)]:Nat):Int)])::(sb,.cells 377 (L.length*7) ((L.set i ({ s with cel:=c }:Slt)).flatMap sltC))::H) Tryz.results241 (.nil _) (.own (vs:=hdC s.own) rfl ty40 rfl (b:=b4) zM rfl) (.tmp rfl) zH ?_))
 exact ⟨withL u [(i:Int)],outL f [(i:Int)],rfl,hu.with_ hlen.2 hs rfl,hf.out hlen.2 hs (by show (1:Nat)≠0; decide),by rw [rows_same (x:=({ s with cel:=c }:Slt)) (y:=({ s with st:=1,cel:=c }:Slt)) rfl]⟩
def zSlt:Slt:=⟨zHd,0,zCel⟩
def newS (i:Nat):Slt:=⟨⟨(i:Int),1⟩,0,zCel⟩
def newL (n k:Nat):List Slt:=(List.range n).map fun i=>if i<k then newS i else zSlt
theorem newL_len (n k:Nat):(newL n k).length=n:=by unfold newL; rw [List.length_map,List.length_range]
theorem newL_at {n k i:Nat} (h:i<n):(newL n k)[i]?=some (if i<k then newS i else zSlt):=by
 unfold newL; rw [List.getElem?_map,List.getElem?_range h]; rfl
theorem newL_set {n k:Nat}:(newL n k).set k (newS k)=newL n (k+1):=by
 apply List.ext_getElem?
 intro j
 by_cases hj:j<n
 ·by_cases e:k=j
  ·subst e
   rw [List.getElem?_set_self (by rw [newL_len]; exact hj),newL_at hj,if_pos (by omega)]
  ·rw [List.getElem?_set_ne e,newL_at hj,newL_at hj]
   by_cases c:j<k
   ·rw [if_pos c,if_pos (by omega)]
   ·rw [if_neg c,if_neg (by omega)]
 ·rw [List.getElem?_eq_none (by rw [List.length_set,newL_len]; omega),List.getElem?_eq_none (by rw [newL_len]; omega)]
theorem newL_all {n:Nat} {i:Nat} {s:Slt} (h:(newL n n)[i]?=some s):s=newS i:=by
 have hi:i<n:=by have:=(List.getElem?_eq_some_iff.1 h).1; rwa [newL_len] at this
 rw [newL_at hi,if_pos hi] at h
 exact (Option.some.inj h).symm
theorem newL_ok {n:Nat} (h1:1≤n) (h2:n≤64):AreOk (newL n n) :=
 ⟨by rw [newL_len]; exact ⟨h1,h2⟩,fun i s hs=>by rw [newL_all hs]; exact ⟨rfl,by show (1:Int)≤1; decide,by show (1:Int)≤255; decide⟩⟩
theorem newL_free {n:Nat} (h1:1≤n) (h2:n≤64):TellsA 0 (newL n n) (2 ^ n-1):=by
 refine ⟨?_,fun i=>?_⟩
 ·have:2 ^ n≤2 ^ 64:=Nat.pow_le_pow_right zd h2
  omega
 ·rw [Nat.testBit_two_pow_sub_one]
  by_cases hi:i<n
  ·rw [newL_at hi,if_pos hi,decide_eq_true hi]; rfl
  ·rw [List.getElem?_eq_none (by rw [newL_len]; omega),decide_eq_false hi]
theorem newL_used {n:Nat}:TellsA 1 (newL n n) 0:=by
 refine ⟨by decide,fun i=>?_⟩
 rw [Nat.zero_testBit]
 by_cases hi:i<n
 ·rw [newL_at hi,if_pos hi]; rfl
 ·rw [List.getElem?_eq_none (by rw [newL_len]; omega)]
theorem newL_zero (n:Nat):(madeCells (Value.agg (List.toArray (sltC zSlt))).cells (n*7)).toList=(newL n 0).flatMap sltC:=by
 apply List.ext_getElem?
 intro j
 have hl:(newL n 0).length=n:=newL_len n 0
 by_cases hj:j<n*7
 ·obtain ⟨q,r,hr,rfl⟩:∃ q r,r<7∧j=q*7+r:=⟨j/7,j%7,Nat.mod_lt _ zd,by omega⟩
  rw [rows_get sltC_len (newL_at (by omega)) hr,if_neg (by omega)]
  have e:∀ (z:Array Value),(madeCells z (n*7)).toList[q*7+r]?=some (z[(q*7+r)%z.size]!):=fun z=>by
   unfold madeCells
   rw [Array.toList_map,List.getElem?_map,Array.toList_range,List.getElem?_range hj]; rfl
  rw [e]
  show some ((Value.agg (List.toArray (sltC zSlt))).cells[(q*7+r)%7]!)=_
  rw [show (q*7+r)%7=r by omega]
  have hr':r=0∨r=1∨r=2∨r=3∨r=4∨r=5∨r=6:=by omega
  rcases hr' with rfl | rfl | rfl | rfl | rfl | rfl | rfl <;> rfl
 ·rw [List.getElem?_eq_none (by rw [Array.length_toList,size_madeCells]; omega),List.getElem?_eq_none (by rw [rows_len sltC_len,newL_len]; omega)]
theorem NewA_L {w0:World} {H:Heap} {n:Nat} (h1:1≤n) (h2:n≤64) :LCalls Tryz.prog w0 170 #[.int .i64 (n:Int)] (H) (fun v H'=>∃ ab sb,v=.tuple #[.pointer (some ⟨ab,0,none⟩),.int .i64 0]∧H'=(ab,.cells 345 3 [.slice (some ⟨sb,0,none⟩) n n,.int .u64 0,.int .u64 ((2 ^ n-1:Nat):Int)])::(sb,.cells 377 (n*7) ((newL n n).flatMap sltC))::H):=by
 refine L_enter (l:=[.int .i64 (n:Int)]) Tryz.func170 rfl Tryz.ntmps170 rfl rfl ?_
 refine W_sr (W_assign rfl rfl (W_assign rfl rfl (W_nil (W_seq (W_sr (W_move rfl rfl (W_bin rfl rfl b_lss rfl ?_)))))))
 refine W_move rfl rfl ?_
 apply W_or
 iterate 4 exact rfl
 case h1 =>
  intro hg2
  refine W_gyes rfl rfl (W_move rfl rfl (W_gyes rfl rfl (W_bin rfl rfl b_gtr rfl ?_)))
  exact W_met rfl zR
 refine W_nil ?_
 refine W_condF rfl (by simp; omega) ?_
 refine W_skip (W_seq ?_)
 refine W_cutX (X:=(Nat × Nat)) (fun x=>[(0,.int .i64 (n:Int)),(4,.pointer (some ⟨x.1,0,none⟩))]) (fun x=>(x.1,.cells 345 3 [.slice (some ⟨x.2,0,none⟩) n n,.int .u64 0,.int .u64 ((2 ^ n-1:Nat):Int)])::(x.2,.cells 377 (n*7) ((newL n 0).flatMap sltC))::H) (fun _=>True) ?_ ?_
 ·skip
  refine W_anyC [] zk ?_
  refine WC_take 0 rfl zK zK zK rfl rfl (X_move rfl) rfl ?_
  refine WC_take 2 rfl zK zK zK rfl rfl (X_move rfl) rfl ?_
  refine WC_two 1 3 (l':=#[true,true,true,false,false,false,false]) (l'':=#[true,false,true,true,false,false,false]) zH zK rfl rfl zK zK ?_ ?_
  ·skip
   refine W_makeSlice (ln:=n) (cp:=n) (l:=(newL n 0).flatMap sltC) rfl rfl ty343 ty377 rfl rfl (Nat.le_refl _) (by omega) (by simp only [maxLen]; omega) (newL_zero n) rfl (fun sb=>?_)
   refine W_nil ?_
   refine WC_goal ?_
   refine WC_one 3 zH zK rfl rfl ?_
   refine W_callp (.cons rfl .nil) Tryz.call260 rfl (T:=fun _=>True) trivial (full_pure h1 h2) ?_
   refine W_nil ?_
   refine WC_goal ?_
   refine WC_take 4 rfl zK zK zK rfl rfl (X_build (l:=[.slice (some ⟨sb,0,none⟩) n n,.int .u64 0,.int .u64 ((2 ^ n-1:Nat):Int)]) ty345 pl345 (.cons rfl rfl rfl rfl rfl (.cons rfl rfl rfl rfl rfl .nil)) rfl rfl) rfl ?_
   refine WC_one 5 zH zK rfl rfl ?_
   refine W_box (l:=[.slice (some ⟨sb,0,none⟩) n n,.int .u64 0,.int .u64 ((2 ^ n-1:Nat):Int)]) rfl rfl rfl (fun b17=>?_)
   refine W_nil ?_
   refine WC_goal ?_
   refine WC_take 6 rfl zK zK zK rfl rfl (X_assign rfl) rfl ?_
   refine WC_done zH zK ?_
   refine W_joinX (b17,sb) trivial (sub_cons rfl (sub_cons rfl (sub_nil _))) zH
  ·skip
   refine W_callp (.cons rfl .nil) Tryz.call260 rfl (T:=fun _=>True) trivial (full_pure h1 h2) ?_
   refine W_nil ?_
   refine WC_goal ?_
   refine WC_one 1 zH zK rfl rfl ?_
   refine W_makeSlice (ln:=n) (cp:=n) (l:=(newL n 0).flatMap sltC) rfl rfl ty343 ty377 rfl rfl (Nat.le_refl _) (by omega) (by simp only [maxLen]; omega) (newL_zero n) rfl (fun sb=>?_)
   refine W_nil ?_
   refine WC_goal ?_
   refine WC_take 4 rfl zK zK zK rfl rfl (X_build (l:=[.slice (some ⟨sb,0,none⟩) n n,.int .u64 0,.int .u64 ((2 ^ n-1:Nat):Int)]) ty345 pl345 (.cons rfl rfl rfl rfl rfl (.cons rfl rfl rfl rfl rfl .nil)) rfl rfl) rfl ?_
   refine WC_one 5 zH zK rfl rfl ?_
   refine W_box (l:=[.slice (some ⟨sb,0,none⟩) n n,.int .u64 0,.int .u64 ((2 ^ n-1:Nat):Int)]) rfl rfl rfl (fun b17=>?_)
   refine W_nil ?_
   refine WC_goal ?_
   refine WC_take 6 rfl zK zK zK rfl rfl (X_assign rfl) rfl ?_
   refine WC_done zH zK ?_
   refine W_joinX (b17,sb) trivial (sub_cons rfl (sub_cons rfl (sub_nil _))) zH
 rintro ⟨ab,sb⟩ -
 dsimp only
 refine W_seq (W_sr (W_move rfl rfl (W_nilCheck rfl rfl (W_fieldAddr rfl fld345_0 zd rfl ?_))))
 refine W_load (v:=.slice (some ⟨sb,0,none⟩) n n) rfl ty343 rfl (Cell.own (b:=ab) zM rfl) rfl ?_
 refine W_len rfl ty343 rfl rfl ?_
 refine W_move rfl rfl (W_nil (W_block ?_))
 refine W_loopC (X:=Nat) [(4,_),(22,_)] (fun (k:Nat)=>[(23,.int .i64 (k:Int))]) (fun _=>_) (fun (k:Nat)=>(ab,.cells 345 3 [.slice (some ⟨sb,0,none⟩) n n,.int .u64 0,.int .u64 ((2 ^ n-1:Nat):Int)])::(sb,.cells 377 (n*7) ((newL n k).flatMap sltC))::H) (fun (k:Nat)=>k≤n) (fun (k:Nat)=>n-k) 0 (Nat.zero_le _) (sub_cons rfl (sub_cons rfl (sub_nil _))) (sub_cons rfl (sub_nil _)) rfl zH ?_
 intro k hk
 simp only [List.cons_append,List.nil_append]
 refine W_sr (W_bin rfl rfl b_lss rfl ?_)
 refine W_nil (W_seq ?_)
 refine W_condPS (p:=(k:Int)<(n:Int)) rfl (by simp) (fun q0=>?_) (fun q0=>?_)
 ·skip
  refine W_skip (W_seq (W_block (W_sr (W_move rfl rfl (W_assign rfl rfl (W_nil (W_region (W_move rfl rfl (W_nilCheck rfl rfl ?_)))))))))
  refine W_fieldAddr rfl fld345_0 zd rfl ?_
  refine W_load (v:=.slice (some ⟨sb,0,none⟩) n n) rfl ty343 rfl (Cell.own (b:=ab) zM rfl) rfl ?_
  refine W_move rfl rfl (W_move rfl rfl (W_build (l:=[.int .i64 (k:Int),.int .i64 1]) ty40 pl40 (.cons rfl rfl rfl rfl rfl (.cons rfl rfl rfl rfl rfl .nil)) rfl rfl rfl ?_))
  refine W_indexAddr (j:=k) rfl rfl ty343 ty377 (by first | rfl | omega) (by first | decide | omega | simp) rfl rfl ?_
  refine W_fieldAddr rfl fld377_0 zd rfl ?_
  refine W_storeA (l':=(newL n (k+1)).flatMap sltC) rfl rfl ty40 rfl rfl (b:=sb) zM (by show 0+k*7+0+2≤_; rw [rows_len sltC_len,newL_len]; omega) (by rw [Nat.zero_add,← newL_set]; exact rows_spl (o:=0) (x:=zSlt) (x':=newS k) sltC_len ((newL_at (by omega)).trans (by rw [if_neg (by omega)])) (by show 0+2≤7; decide) rfl) zU ?_
  refine W_nil (W_blk (W_region (W_bin rfl rfl (b_add (m:=((k+1:Nat):Int)) ((i64w zO).trans zO)) rfl ?_)))
  refine W_move rfl rfl (W_nil ?_)
  refine W_again (k+1) zO zO (sub_cons rfl (sub_cons rfl (sub_cons rfl (sub_nil _)))) rfl zH
 ·skip
  refine W_exit rfl ?_
  refine W_sr (W_move rfl rfl (W_assign rfl rfl (W_assign rfl rfl (W_nil (W_ret2m Tryz.results170 rfl rfl (.nil _) (.refl _) ?_)))))
  obtain rfl:k=n:=by omega
  exact ⟨ab,sb,rfl,rfl⟩
section
variable {K:Type} [DecidableEq K]
def inO (m:List K) (k:K):Bool:=m.any fun x=>decide (x=k)
theorem inO_iff {m:List K} {k:K}:inO m k=true↔k∈m:=by
 unfold inO
 rw [List.any_eq_true]
 exact ⟨fun ⟨x,hx,e⟩=>of_decide_eq_true e ▸ hx,fun h=>⟨k,h,decide_eq_true rfl⟩⟩
theorem inO_not {m:List K} {k:K}:inO m k=false↔k ∉ m:=by
 rw [← inO_iff]; simp
def drop1O (m:List K) (k:K):List K:=m.filter (fun x=>decide (x≠k))
def touch1 (m:List K) (room:Nat) (k:K):List K × Int:=if k ∉ m∧m.length=room then (m,3) else (drop1O m k++[k],0)
def touchL (m:List K) (room:Nat):List K→List K × Int
 | []=>(m,0)
 | k::ks=>if (touch1 m room k).2=0 then touchL (touch1 m room k).1 room ks else (m,3)
structure OrdIs (room:Nat) (m:List K) (last:Nat) (l:Ents K) (c:Nat) (τ:K→Nat):Prop where
 ok:MapOk l c
 keys:(l.map (·.1)).Perm m
 val:∀ p∈l,p.2.1=.int .i64 (τ p.1:Int)
 asc:m.Pairwise (fun x y=>τ x < τ y)
 bd:∀ k∈m,0 < τ k∧τ k≤last
 le:m.length≤room
variable {room last c:Nat} {m:List K} {l:Ents K} {τ:K→Nat}
theorem OrdIs.nodup (h:OrdIs room m last l c τ):m.Nodup:=h.keys.nodup_iff.1 h.ok.keys
theorem OrdIs.len (h:OrdIs room m last l c τ):l.length=m.length:=by have:=h.keys.length_eq; simpa using this
theorem OrdIs.nil (room c:Nat) (τ:K→Nat):OrdIs room ([]:List K) 0 [] c τ:=⟨MapOk.nil c,.nil,(fun _ h=>by cases h),.nil,(fun _ h=>by cases h),Nat.zero_le _⟩
theorem OrdIs.has (h:OrdIs room m last l c τ) (k:K):mHas l k=inO m k:=by
 rw [Bool.eq_iff_iff,mHas_iff,h.keys.mem_iff,inO_iff]
theorem OrdIs.get (h:OrdIs room m last l c τ) (k:K):(mGet l k).getD (.int .i64 0)=.int .i64 (if inO m k then (τ k:Int) else 0):=by
 unfold mGet
 cases hf:l.find? (fun p=>decide (k=p.1)) with
 | none =>
  have:k ∉ m:=fun hm=>by
   obtain ⟨p,hp,e⟩:=List.mem_map.1 (h.keys.mem_iff.2 hm)
   have:=List.find?_eq_none.1 hf p hp
   exact this (decide_eq_true e.symm)
  rw [if_neg (by rw [inO_not.2 this]; simp)]; rfl
 | some p =>
  have hp:=List.mem_of_find?_eq_some hf
  have e:k=p.1:=of_decide_eq_true (by simpa using List.find?_some hf)
  have hm:k∈m:=h.keys.mem_iff.1 (e ▸ List.mem_map.2 ⟨p,hp,rfl⟩)
  rw [if_pos (inO_iff.2 hm),e]
  exact h.val p hp
theorem drop1O_not {m:List K} {k:K} (h:k ∉ m):drop1O m k=m:=by
 unfold drop1O
 rw [List.filter_eq_self]
 intro x hx
 exact decide_eq_true fun e=>h (e ▸ hx)
theorem drop1O_mem {m:List K} {k x:K}:x∈drop1O m k↔x∈m∧x≠k:=by simp [drop1O]
theorem drop1O_perm:∀ {m:List K} {k:K},m.Nodup→k∈m→m.Perm (drop1O m k++[k])
 | y::m,k,hn,h=>by
  have hn':=List.nodup_cons.1 hn
  by_cases e:y=k
  ·subst e
   have:drop1O (y::m) y=m:=by
    unfold drop1O
    rw [List.filter_cons_of_neg (by simp)]
    exact drop1O_not hn'.1
   rw [this]
   exact (List.perm_append_singleton y m).symm
  ·have:drop1O (y::m) k=y::drop1O m k:=by
    unfold drop1O
    rw [List.filter_cons_of_pos (by simpa using e)]
   rw [this]
   have hk:k∈m:=by rcases List.mem_cons.1 h with h | h; exact absurd h.symm e; exact h
   exact (drop1O_perm hn'.2 hk).cons y
theorem OrdIs.put (h:OrdIs room m last l c τ) (k:K) (hr:k∈m∨m.length<room) :
  OrdIs room (drop1O m k++[k]) (last+1) (mPut l c k (.int .i64 ((last+1:Nat):Int))) (mClk l c k) (fun x=>if x=k then last+1 else τ x) where
 ok:=h.ok.put k _
 keys:=by
  unfold mPut
  cases hh:mHas l k with
  | true =>
   have hm:k∈m:=by rw [h.has] at hh; exact inO_iff.1 hh
   simp only [if_true]
   have e1:(l.map (fun p=>if k=p.1 then (p.1,Value.int .i64 ((last+1:Nat):Int),p.2.2) else p)).map (·.1)=l.map (·.1):=by
    rw [List.map_map]; apply List.map_congr_left; intro p _; simp only [Function.comp]; split <;> rfl
   rw [e1]
   exact h.keys.trans (drop1O_perm h.nodup hm)
  | false =>
   have hm:k ∉ m:=by rw [h.has] at hh; exact inO_not.1 hh
   simp only [Bool.false_eq_true,if_false]
   rw [drop1O_not hm,List.map_append]
   exact h.keys.append_right _
 val p hp:=by
  unfold mPut at hp
  cases hh:mHas l k with
  | true =>
   rw [hh] at hp
   simp only [if_true] at hp
   obtain ⟨q,hq,rfl⟩:=List.mem_map.1 hp
   by_cases e:k=q.1
   ·simp only [if_pos e,if_pos e.symm]
   ·simp only [if_neg e,if_neg (fun e'=>e (Eq.symm e'))]; exact h.val q hq
  | false =>
   have hm:k ∉ m:=by rw [h.has] at hh; exact inO_not.1 hh
   rw [hh] at hp
   simp only [Bool.false_eq_true,if_false] at hp
   rcases List.mem_append.1 hp with hp | hp
   ·have:p.1≠k:=fun e=>hm (h.keys.mem_iff.1 (e ▸ List.mem_map.2 ⟨p,hp,rfl⟩))
    simp only [if_neg this]; exact h.val p hp
   ·obtain rfl:p=(k,.int .i64 ((last+1:Nat):Int),c):=by simpa using hp
    simp
 asc:=by
  refine List.pairwise_append.2 ⟨?_,List.pairwise_singleton _ _,fun x hx y hy=>?_⟩
  ·have h1:(drop1O m k).Pairwise (fun x y=>τ x < τ y):=h.asc.sublist List.filter_sublist
   refine List.Pairwise.imp_of_mem (fun {x y} hx hy hxy=>?_) h1
   simp only [if_neg (drop1O_mem.1 hx).2,if_neg (drop1O_mem.1 hy).2]; exact hxy
  ·obtain rfl:y=k:=by simpa using hy
   have hx':=drop1O_mem.1 hx
   simp only [if_neg hx'.2,if_true]
   have:=(h.bd x hx'.1).2
   omega
 bd x hx:=by
  rcases List.mem_append.1 hx with hx | hx
  ·have hx':=drop1O_mem.1 hx
   simp only [if_neg hx'.2]
   have:=h.bd x hx'.1
   omega
  ·obtain rfl:x=k:=by simpa using hx
   simp
 le:=by
  rcases hr with hm | hm
  ·rw [← (drop1O_perm h.nodup hm).length_eq]; exact h.le
  ·have:(drop1O m k).length≤m.length:=List.length_filter_le _ _
   rw [List.length_append,List.length_singleton]; omega
theorem mDel_keys (l:Ents K) (k:K):(mDel l k).map (·.1)=drop1O (l.map (·.1)) k:=by
 unfold mDel drop1O
 rw [List.filter_map]
 congr 1
 apply List.filter_congr
 intro p _
 simp only [Function.comp,ne_eq]
 congr 1
 exact propext ⟨fun h e=>h e.symm,fun h e=>h e.symm⟩
theorem OrdIs.del (h:OrdIs room m last l c τ) (k:K):OrdIs room (drop1O m k) last (mDel l k) c τ where
 ok:=h.ok.del k
 keys:=by rw [mDel_keys]; exact h.keys.filter _
 val p hp:=h.val p (List.mem_filter.1 hp).1
 asc:=h.asc.sublist List.filter_sublist
 bd x hx:=h.bd x (drop1O_mem.1 hx).1
 le:=Nat.le_trans (List.length_filter_le _ _) h.le
theorem asc_uniqueO {τ:K→Nat}:∀ {a b:List K},a.Perm b→a.Pairwise (fun x y=>τ x < τ y)→b.Pairwise (fun x y=>τ x < τ y)→a=b
 | [],b,hp,_,_=>(List.Perm.nil_eq hp)
 | x::a,b,hp,ha,hb=>by
  cases b with
  | nil=>exact absurd hp.length_eq (by simp)
  | cons y b =>
   have ha':=List.pairwise_cons.1 ha
   have hb':=List.pairwise_cons.1 hb
   have hxy:x=y:=by
    rcases List.mem_cons.1 (hp.mem_iff.1 List.mem_cons_self) with h | h
    ·exact h
    ·rcases List.mem_cons.1 (hp.mem_iff.2 List.mem_cons_self) with h' | h'
     ·exact h'.symm
     ·have:=hb'.1 x h; have:=ha'.1 y h'; omega
   subst hxy
   rw [asc_uniqueO (List.Perm.cons_inv hp) ha'.2 hb'.2]
end
theorem i64wO {m:Int} (h:-9223372036854775808≤m∧m≤9223372036854775807):IntKind.i64.wrap m=m:=IntWalk.i64_in m h
theorem zE:∀ w,(zeroValue 3).run Tryz.prog w=.ok (.int .i64 0) w:=Tryz.zeroValue3
theorem gt0 {K:Type} [DecidableEq K] {room last c:Nat} {m:List K} {l:Ents K} {τ:K→Nat} {k:K} (h:OrdIs room m last l c τ):decide ((0:Int)<(if inO m k then (τ k:Int) else 0))=inO m k:=by
 cases hk:inO m k with
 | true=>have:=(h.bd k (inO_iff.1 hk)).1; exact decide_eq_true (by simpa using this)
 | false=>rfl
theorem keyU:KeyKind Tryz.prog 30 (Value.int .u64):=intKeys ty30.und
theorem hasU_q {w0:World} {H:Heap} {room last c bo bm:Nat} {m:List Int} {l:Ents Int} {τ:Int→Nat} (hO:OrdIs room m last l c τ) (h1:(bo,.cells 372 3 [.int .i64 (room:Int),.int .i64 ((last:Nat):Int),.map (some bm)])∈H) (h2:(bm,.obj (mapO (Value.int .u64) l c))∈H) (k:Int) :PureAt Tryz.prog w0 H 235 [.pointer (some ⟨bo,0,none⟩),(Value.int .u64) k] (.bool (inO m k)):=by
 refine L_enter Tryz.func235 rfl Tryz.ntmps235 rfl rfl ?_
 refine W_sr (W_assign rfl rfl (W_nil (W_sr (W_move rfl rfl ?_))))
 refine W_x (X_ptrNotNil rfl rfl ty215) (fun _ h=>by cases h) rfl ?_
 refine W_move rfl rfl (W_gyes rfl rfl (W_move rfl rfl (W_gyes rfl rfl (W_nilCheck rfl rfl (W_gyes rfl rfl (W_fieldAddr rfl fld372_2 zd rfl ?_))))))
 refine W_gyes rfl rfl (W_load rfl ty370 rfl (Cell.own h1 rfl) rfl ?_)
 refine W_gyes rfl rfl (W_move rfl rfl (W_gyes rfl rfl (W_lookup (a:=k) (zE:=.int .i64 0) rfl rfl keyU ty370 zE h2 rfl ?_)))
 simp only [Bool.false_eq_true,if_false]
 rw [hO.get]
 refine W_gyes rfl rfl (W_bin rfl rfl b_gtr rfl ?_)
 rw [gt0 hO]
 first | refine W_pickt rfl rfl rfl ?_ | refine W_pickf rfl rfl rfl ?_
 refine W_assign rfl rfl (W_nil (W_ret1m (H2:=H) Tryz.results235 rfl (.nil _) zH ?_))
 exact ⟨rfl,rfl⟩
theorem newU_L {w0:World} {H:Heap} {room:Nat} (hz:1≤room∧room≤64) :LCalls Tryz.prog w0 172 #[.int .i64 (room:Int)] (H) (fun v H'=>∃ bo bm,v=.tuple #[.pointer (some ⟨bo,0,none⟩),.int .i64 0]∧H'=(bo,.cells 372 3 [.int .i64 (room:Int),.int .i64 ((0:Nat):Int),.map (some bm)])::(bm,.obj (mapO (Value.int .u64) [] 0))::H):=by
 refine L_enter (l:=[.int .i64 (room:Int)]) Tryz.func172 rfl Tryz.ntmps172 rfl rfl ?_
 refine W_sr (W_assign rfl rfl (W_assign rfl rfl (W_nil (W_seq (W_sr (W_move rfl rfl (W_bin rfl rfl b_lss rfl ?_)))))))
 refine W_move rfl rfl ?_
 apply W_or
 iterate 4 exact rfl
 case h1 =>
  intro hg2
  refine W_gyes rfl rfl (W_move rfl rfl (W_gyes rfl rfl (W_bin rfl rfl b_gtr rfl ?_)))
  exact W_met rfl zR
 refine W_nil ?_
 refine W_condF rfl (by simp; omega) ?_
 refine W_skip (W_sr (W_move rfl rfl ?_))
 refine W_makeMap (kf:=(Value.int .u64)) rfl (fun b11=>?_)
 refine W_build (l:=[.int .i64 (room:Int),.int .i64 0,.map (some b11)]) ty372 pl372 (.cons rfl rfl rfl rfl rfl (.cons rfl rfl rfl rfl rfl .nil)) rfl rfl rfl ?_
 refine W_box rfl rfl rfl (fun b13=>?_)
 refine W_assign rfl rfl (W_assign rfl rfl (W_nil (W_ret2m Tryz.results172 rfl rfl (.nil _) (.refl _) ?_)))
 exact ⟨b13,b11,rfl,rfl⟩
theorem dropU_L {w0:World} {H:Heap} {room last c bo bm:Nat} {m:List Int} {l:Ents Int} {τ:Int→Nat} (hO:OrdIs room m last l c τ) (k:Int) :LCalls Tryz.prog w0 240 #[.pointer (some ⟨bo,0,none⟩),(Value.int .u64) k] ((bo,.cells 372 3 [.int .i64 (room:Int),.int .i64 ((last:Nat):Int),.map (some bm)])::(bm,.obj (mapO (Value.int .u64) l c))::H) (fun v H'=>∃ l',v=.bool (inO m k)∧OrdIs room (drop1O m k) last l' c τ∧H'=(bo,.cells 372 3 [.int .i64 (room:Int),.int .i64 ((last:Nat):Int),.map (some bm)])::(bm,.obj (mapO (Value.int .u64) l' c))::H):=by
 refine L_enter (l:=[.pointer (some ⟨bo,0,none⟩),(Value.int .u64) k]) Tryz.func240 rfl Tryz.ntmps240 rfl rfl ?_
 refine W_sr (W_assign rfl rfl (W_nil (W_seq (W_sr (W_move rfl rfl (W_move rfl rfl (W_callq (.cons rfl (.cons rfl .nil)) Tryz.call235 rfl (hasU_q hO List.mem_cons_self (List.mem_cons_of_mem _ List.mem_cons_self) k) ?_)))))))
 refine W_not rfl rfl ?_
 refine W_nil ?_
 refine W_condPS (p:=k ∉ m) rfl (by simp [← inO_iff]) (fun c0=>?_) (fun c0=>?_)
 ·skip
  refine W_sr (W_assign rfl rfl (W_nil (W_ret1m Tryz.results240 rfl (.nil _) (.refl _) ?_)))
  exact ⟨l,by rw [inO_not.2 c0],by rw [drop1O_not c0]; exact hO,rfl⟩
 ·skip
  refine W_skip (W_sr (W_move rfl rfl (W_nilCheck rfl rfl (W_fieldAddr rfl fld372_2 zd rfl ?_))))
  refine W_load rfl ty370 rfl (Cell.own (b:=bo) zM rfl) rfl ?_
  refine W_move rfl rfl (W_delete (a:=k) rfl rfl keyU ty370 hO.ok (.tail (.head _)) rfl ?_)
  refine W_nil (W_sr (W_assign rfl rfl (W_nil (W_ret1m Tryz.results240 rfl (.nil _) (.refl _) ?_))))
  exact ⟨mDel l k,by rw [inO_iff.2 (Classical.not_not.1 c0)],hO.del k,rfl⟩
structure TS (K:Type) where
 i:Nat
 m:List K
 last:Nat
 l:Ents K
 c:Nat
 τ:K→Nat
theorem touch_step {K:Type} [DecidableEq K] {m:List K} {room i:Nat} {ks:List K} {k:K} (hk:ks[i]?=some k) (hr:k∈m∨m.length<room) (hle:m.length≤room):touchL m room (ks.drop i)=touchL (drop1O m k++[k]) room (ks.drop (i+1)):=by
 have hlt:=(List.getElem?_eq_some_iff.1 hk).1
 have e:ks.drop i=k::ks.drop (i+1):=by
  rw [List.drop_eq_getElem_cons hlt]
  congr 1
  exact (List.getElem?_eq_some_iff.1 hk).2
 have e2:touch1 m room k=(drop1O m k++[k],0):=if_neg (fun h=>by rcases hr with hr | hr; exact h.1 hr; omega)
 rw [e]
 show (if (touch1 m room k).2=0 then _ else _)=_
 rw [e2]; rfl
theorem touch_full {K:Type} [DecidableEq K] {m:List K} {room i:Nat} {ks:List K} {k:K} (hk:ks[i]?=some k) (hn:k ∉ m) (hr:m.length=room):touchL m room (ks.drop i)=(m,3):=by
 have hlt:=(List.getElem?_eq_some_iff.1 hk).1
 have e:ks.drop i=k::ks.drop (i+1):=by
  rw [List.drop_eq_getElem_cons hlt]
  congr 1
  exact (List.getElem?_eq_some_iff.1 hk).2
 have e2:touch1 m room k=(m,3):=if_pos ⟨hn,hr⟩
 rw [e]
 show (if (touch1 m room k).2=0 then _ else _)=_
 rw [e2]; rfl
theorem touchU_L {w0:World} {H:Heap} {room last c bo bm:Nat} {m:List Int} {l:Ents Int} {τ:Int→Nat} (hO:OrdIs room m last l c τ) {ks:List Int} {ad:Option Addr} {cap:Nat} (hbig:last+ks.length≤4611686018427387904) (hrow:Holds w0 H ad (ks.map (Value.int .u64))) :LCalls Tryz.prog w0 143 #[.pointer (some ⟨bo,0,none⟩),.slice ad ks.length cap] ((bo,.cells 372 3 [.int .i64 (room:Int),.int .i64 ((last:Nat):Int),.map (some bm)])::(bm,.obj (mapO (Value.int .u64) l c))::H) (fun v H'=>∃ last' l' c' τ',v=.int .i64 (touchL m room ks).2∧OrdIs room (touchL m room ks).1 last' l' c' τ'∧last'≤last+ks.length∧H'=(bo,.cells 372 3 [.int .i64 (room:Int),.int .i64 ((last':Nat):Int),.map (some bm)])::(bm,.obj (mapO (Value.int .u64) l' c'))::H):=by
 refine L_enter (l:=[.pointer (some ⟨bo,0,none⟩),.slice ad ks.length cap]) Tryz.func143 rfl Tryz.ntmps143 rfl rfl ?_
 refine W_sr (W_assign rfl rfl (W_nil (W_seq (W_sr (W_move rfl rfl ?_)))))
 refine W_x (X_ptrNil rfl rfl ty215) (fun _ h=>by cases h) rfl ?_
 refine W_nil (W_condF rfl rfl (W_skip (W_seq (W_sr (W_move rfl rfl (W_len rfl ty84 rfl rfl ?_))))))
 refine W_move rfl rfl (W_nil (W_block ?_))
 refine W_loopC (X:=(TS Int)) [(0,_),(9,_),(10,_)] (fun (x:(TS Int))=>[(11,.int .i64 (x.i:Int))]) (fun _=>_) (fun (x:(TS Int))=>(bo,.cells 372 3 [.int .i64 (room:Int),.int .i64 ((x.last:Nat):Int),.map (some bm)])::(bm,.obj (mapO (Value.int .u64) x.l x.c))::H) (fun (x:(TS Int))=>x.i≤ks.length∧OrdIs room x.m x.last x.l x.c x.τ∧x.last≤last+x.i∧touchL m room ks=touchL x.m room (ks.drop x.i)) (fun (x:(TS Int))=>ks.length-x.i) ⟨0,m,last,l,c,τ⟩ ⟨Nat.zero_le _,hO,Nat.le_refl _,rfl⟩ (sub_cons rfl (sub_cons rfl (sub_cons rfl (sub_nil _)))) (sub_cons rfl (sub_nil _)) rfl zH ?_
 rintro ⟨i,m1,last1,l1,c1,τ1⟩ ⟨hi,hO1,hl1,ht1⟩
 dsimp only at hi hO1 hl1 ht1 ⊢
 simp only [List.cons_append,List.nil_append]
 refine W_sr (W_bin rfl rfl b_lss rfl ?_)
 refine W_nil (W_seq ?_)
 refine W_condPS (p:=(i:Int)<(ks.length:Int)) rfl (by simp) (fun q0=>?_) (fun q0=>?_)
 ·skip
  refine W_skip (W_seq (W_block (W_sr ?_)))
  obtain ⟨k,hk⟩:∃ k,ks[i]?=some k:=⟨_,List.getElem?_eq_getElem zO⟩
  obtain ⟨q0,p0,rfl,hck⟩:=hrow.at (i:=i) (v:=(Value.int .u64) k) (by rw [List.getElem?_map,hk]; rfl)
  refine W_indexAddr (j:=i) rfl rfl ty84 ty30 rfl zO rfl rfl ?_
  refine W_load (v:=(Value.int .u64) k) rfl ty30 rfl (by rw [Nat.mul_one]; exact hck.up zH) rfl ?_
  refine W_assign rfl rfl (W_nil (W_seq (W_seq ?_)))
  rcases hin:inO m1 k with _ | _
  ·skip
   refine W_quiet zk zK ?_
   refine WQ_x (X_move rfl) rfl (WQ_x (X_move rfl) rfl (WQ_callq (.cons rfl (.cons rfl .nil)) Tryz.call235 rfl (hasU_q (bm:=bm) hO1 zM zM k) ?_))
   rw [hin]
   refine WQ_x (X_not rfl) rfl ?_
   refine WQ_x (X_move rfl) rfl (WQ_gyes rfl rfl (WQ_x (X_move rfl) rfl (WQ_gyes rfl rfl (WQ_x (X_nilCheck rfl) rfl ?_))))
   refine WQ_gyes rfl rfl (WQ_x (X_fieldAddr rfl fld372_2 zd) rfl ?_)
   refine WQ_gyes rfl rfl (WQ_x (X_load rfl ty370 rfl (Cell.own (b:=bo) zM rfl)) rfl ?_)
   refine WQ_gyes rfl rfl (WQ_x (X_lenMap rfl ty370 (kf:=(Value.int .u64)) (l:=l1) (cl:=c1) (b:=bm) zM) rfl ?_)
   rw [hO1.len]
   refine WQ_gyes rfl rfl (WQ_x (X_move rfl) rfl (WQ_gyes rfl rfl (WQ_x (X_nilCheck rfl) rfl ?_)))
   refine WQ_gyes rfl rfl (WQ_x (X_fieldAddr rfl fld372_0 zd) rfl ?_)
   refine WQ_gyes rfl rfl (WQ_x (X_load rfl ty3 rfl (Cell.own (b:=bo) zM rfl)) rfl ?_)
   refine WQ_gyes rfl rfl (WQ_x (X_bin rfl rfl b_eql) rfl ?_)
   first | refine WQ_x (X_pickt rfl rfl) rfl ?_ | refine WQ_x (X_pickf rfl rfl) rfl ?_
   refine WQ_nil ?_
   refine W_condPS (p:=m1.length=room) rfl (by simp; omega) (fun q1=>?_) (fun q1=>?_)
   ·skip
    refine W_sr (W_assign rfl rfl (W_nil (W_ret1m Tryz.results143 rfl (.nil _) (.refl _) ?_)))
    exact ⟨last1,l1,c1,τ1,by rw [ht1,touch_full hk (inO_not.1 hin) q1],by rw [ht1,touch_full hk (inO_not.1 hin) q1]; exact hO1,by omega,rfl⟩
   ·skip
    refine W_skip (W_sr ?_)
    have hroom:k∈m1∨m1.length<room:=by
     right
     have:=hO1.le
     omega
    refine W_move rfl rfl (W_nilCheck rfl rfl (W_fieldAddr rfl fld372_1 zd rfl ?_))
    refine W_load rfl ty3 rfl (Cell.own (b:=bo) zM rfl) rfl ?_
    refine W_bin rfl rfl (b_add (m:=((last1+1:Nat):Int)) ((i64wO zO).trans zO)) rfl ?_
    refine W_nilCheck rfl rfl (W_fieldAddr rfl fld372_1 zd rfl ?_)
    refine W_store (l':=[.int .i64 (room:Int),.int .i64 ((last1+1:Nat):Int),.map (some bm)]) rfl rfl ty3 rfl rfl (b:=bo) zM rfl rfl zU ?_
    refine W_nil ?_
    refine W_anyC ((bo,.cells 372 3 [.int .i64 (room:Int),.int .i64 ((last1+1:Nat):Int),.map (some bm)])::H) zk ?_
    refine WC_take 0 rfl zK zK zK rfl rfl (X_move rfl) rfl ?_
    refine WC_take 1 rfl zK zK zK rfl rfl (X_nilCheck rfl) rfl ?_
    refine WC_take 2 rfl zK zK zK rfl rfl (X_fieldAddr rfl fld372_2 zd) rfl ?_
    refine WC_take 3 rfl zK zK zK rfl rfl (X_load rfl ty370 rfl (Cell.own (b:=bo) zM rfl)) rfl ?_
    refine WC_take 4 rfl zK zK zK rfl rfl (X_move rfl) rfl ?_
    refine WC_take 5 rfl zK zK zK rfl rfl (X_move rfl) rfl ?_
    refine WC_take 6 rfl zK zK zK rfl rfl (X_nilCheck rfl) rfl ?_
    refine WC_take 7 rfl zK zK zK rfl rfl (X_fieldAddr rfl fld372_1 zd) rfl ?_
    refine WC_take 8 rfl zK zK zK rfl rfl (X_load rfl ty3 rfl (Cell.own (b:=bo) zM rfl)) rfl ?_
    refine WC_one 9 zH zK rfl rfl ?_
    refine W_mapUpdate (a:=k) rfl rfl rfl keyU ty370 hO1.ok zU ?_
    refine W_nil ?_
    refine WC_goal ?_
    refine WC_done zH zK ?_
    refine W_blk (W_region (W_bin rfl rfl (b_add (m:=((i+1:Nat):Int)) ((i64wO zO).trans zO)) rfl ?_))
    refine W_move rfl rfl (W_nil ?_)
    refine W_again ⟨i+1,drop1O m1 k++[k],last1+1,mPut l1 c1 k (.int .i64 ((last1+1:Nat):Int)),mClk l1 c1 k,fun x=>if x=k then last1+1 else τ1 x⟩ ⟨by show i+1≤ks.length; omega,hO1.put k hroom,by show last1+1≤last+(i+1); omega,ht1.trans (touch_step hk hroom hO1.le)⟩ (by show ks.length-(i+1)<ks.length-i; omega) (sub_cons rfl (sub_cons rfl (sub_cons rfl (sub_cons rfl (sub_nil _))))) rfl zH
  ·skip
   refine W_quiet zk zK ?_
   refine WQ_x (X_move rfl) rfl (WQ_x (X_move rfl) rfl (WQ_callq (.cons rfl (.cons rfl .nil)) Tryz.call235 rfl (hasU_q (bm:=bm) hO1 zM zM k) ?_))
   rw [hin]
   refine WQ_x (X_not rfl) rfl ?_
   refine WQ_x (X_move rfl) rfl (WQ_gno rfl rfl rfl rfl ?_)
   refine WQ_gno rfl rfl rfl rfl ?_
   refine WQ_gno rfl rfl rfl rfl ?_
   refine WQ_gno rfl rfl rfl rfl ?_
   refine WQ_gno rfl rfl rfl rfl ?_
   refine WQ_gno rfl rfl rfl rfl ?_
   refine WQ_gno rfl rfl rfl rfl ?_
   refine WQ_gno rfl rfl rfl rfl ?_
   refine WQ_gno rfl rfl rfl rfl ?_
   refine WQ_gno rfl rfl rfl rfl ?_
   first | refine WQ_x (X_pickt rfl rfl) rfl ?_ | refine WQ_x (X_pickf rfl rfl) rfl ?_
   refine WQ_nil ?_
   refine W_condF rfl rfl (W_skip (W_sr ?_))
   have hroom:k∈m1∨m1.length<room:=.inl (inO_iff.1 hin)
   refine W_move rfl rfl (W_nilCheck rfl rfl (W_fieldAddr rfl fld372_1 zd rfl ?_))
   refine W_load rfl ty3 rfl (Cell.own (b:=bo) zM rfl) rfl ?_
   refine W_bin rfl rfl (b_add (m:=((last1+1:Nat):Int)) ((i64wO zO).trans zO)) rfl ?_
   refine W_nilCheck rfl rfl (W_fieldAddr rfl fld372_1 zd rfl ?_)
   refine W_store (l':=[.int .i64 (room:Int),.int .i64 ((last1+1:Nat):Int),.map (some bm)]) rfl rfl ty3 rfl rfl (b:=bo) zM rfl rfl zU ?_
   refine W_nil ?_
   refine W_anyC ((bo,.cells 372 3 [.int .i64 (room:Int),.int .i64 ((last1+1:Nat):Int),.map (some bm)])::H) zk ?_
   refine WC_take 0 rfl zK zK zK rfl rfl (X_move rfl) rfl ?_
   refine WC_take 1 rfl zK zK zK rfl rfl (X_nilCheck rfl) rfl ?_
   refine WC_take 2 rfl zK zK zK rfl rfl (X_fieldAddr rfl fld372_2 zd) rfl ?_
   refine WC_take 3 rfl zK zK zK rfl rfl (X_load rfl ty370 rfl (Cell.own (b:=bo) zM rfl)) rfl ?_
   refine WC_take 4 rfl zK zK zK rfl rfl (X_move rfl) rfl ?_
   refine WC_take 5 rfl zK zK zK rfl rfl (X_move rfl) rfl ?_
   refine WC_take 6 rfl zK zK zK rfl rfl (X_nilCheck rfl) rfl ?_
   refine WC_take 7 rfl zK zK zK rfl rfl (X_fieldAddr rfl fld372_1 zd) rfl ?_
   refine WC_take 8 rfl zK zK zK rfl rfl (X_load rfl ty3 rfl (Cell.own (b:=bo) zM rfl)) rfl ?_
   refine WC_one 9 zH zK rfl rfl ?_
   refine W_mapUpdate (a:=k) rfl rfl rfl keyU ty370 hO1.ok zU ?_
   refine W_nil ?_
   refine WC_goal ?_
   refine WC_done zH zK ?_
   refine W_blk (W_region (W_bin rfl rfl (b_add (m:=((i+1:Nat):Int)) ((i64wO zO).trans zO)) rfl ?_))
   refine W_move rfl rfl (W_nil ?_)
   refine W_again ⟨i+1,drop1O m1 k++[k],last1+1,mPut l1 c1 k (.int .i64 ((last1+1:Nat):Int)),mClk l1 c1 k,fun x=>if x=k then last1+1 else τ1 x⟩ ⟨by show i+1≤ks.length; omega,hO1.put k hroom,by show last1+1≤last+(i+1); omega,ht1.trans (touch_step hk hroom hO1.le)⟩ (by show ks.length-(i+1)<ks.length-i; omega) (sub_cons rfl (sub_cons rfl (sub_cons rfl (sub_cons rfl (sub_nil _))))) rfl zH
 ·skip
  refine W_exit rfl ?_
  refine W_sr (W_assign rfl rfl (W_nil (W_ret1m Tryz.results143 rfl (.nil _) (.refl _) ?_)))
  obtain rfl:i=ks.length:=by omega
  rw [List.drop_length] at ht1
  exact ⟨last1,l1,c1,τ1,by rw [ht1]; rfl,by rw [ht1]; exact hO1,by omega,rfl⟩
def kv {K:Type} [DecidableEq K] (m:List K) (τ:K→Nat) (x:K):Int:=if inO m x then (τ x:Int) else 0
theorem kv_in {K:Type} [DecidableEq K] {m:List K} {τ:K→Nat} {x:K} (h:x∈m):kv m τ x=τ x:=by unfold kv; rw [if_pos (inO_iff.2 h)]
theorem asc_injO {K:Type} {m:List K} {τ:K→Nat} (h:m.Pairwise (fun x y=>τ x < τ y)) {x y:K} (hx:x∈m) (hy:y∈m) (e:τ x=τ y):x=y:=by
 obtain ⟨i,hi,rfl⟩:=List.getElem_of_mem hx
 obtain ⟨j,hj,rfl⟩:=List.getElem_of_mem hy
 have hp:=List.pairwise_iff_getElem.1 h
 rcases Nat.lt_trichotomy i j with hij | rfl | hij
 ·have:=hp i j hi hj hij; omega
 ·rfl
 ·have:=hp j i hj hi hij; omega
open Go.Proofs in
theorem sorted_isO {K:Type} [DecidableEq K] {m d:List K} {τ:K→Nat} (hp:d.Perm m) (hn:m.Nodup) (h:m.Pairwise (fun x y=>τ x < τ y))
  (hs:∀ (i j:Nat) x y,i<j→d[i]?=some x→d[j]?=some y→ltOf (fun x y=>Lib.compareInt (kv m τ x) (kv m τ y)) y x=false):d=m:=by
 refine asc_uniqueO hp (List.pairwise_iff_getElem.2 fun i j hi hj hij=>?_) h
 have h1:=lt_key _ (hs i j _ _ hij (List.getElem?_eq_getElem hi) (List.getElem?_eq_getElem hj))
 have mi:d[i]∈m:=hp.mem_iff.1 (List.getElem_mem hi)
 have mj:d[j]∈m:=hp.mem_iff.1 (List.getElem_mem hj)
 rw [kv_in mi,kv_in mj] at h1
 have hne:τ d[i]≠τ d[j]:=fun e=>by
  have:=asc_injO h mi mj e
  exact (List.pairwise_iff_getElem.1 (hp.nodup_iff.2 hn)) i j hi hj hij this
 omega
theorem cmpU_reads {room last c bo bm b2:Nat} {m:List Int} {l:Ents Int} {τ:Int→Nat} (hO:OrdIs room m last l c τ) {w0:World} {H:Heap} {C:World→Prop} (hC:∀ w,C w→C w.drew) (hCS:∀ w,C w→Sat w0 ((b2,.cells 215 1 [.pointer (some ⟨bo,0,none⟩)])::(bo,.cells 372 3 [.int .i64 (room:Int),.int .i64 ((last:Nat):Int),.map (some bm)])::(bm,.obj (mapO (Value.int .u64) l c))::H) w) (x y:Int) :
  ∀ w,C w→CallsIn Fence.wide 0 Tryz.prog 312 [(Value.int .u64) x,(Value.int .u64) y,.pointer (some ⟨b2,0,none⟩)].toArray w fun e w'=>e=.returned (.int .i64 (Lib.compareInt (kv m τ x) (kv m τ y)))∧C w':=by
 refine R_enter Tryz.func312 rfl Tryz.ntmps312 rfl rfl rfl zk zK hC ?_
 refine WR_x (Ex.mono hCS (X_load rfl ty215 rfl (Cell.own (b:=b2) zM rfl))) rfl ?_
 refine WR_x (Ex.mono hCS (X_nilCheck rfl)) rfl ?_
 refine WR_x (Ex.mono hCS (X_fieldAddr rfl fld372_2 zd)) rfl ?_
 refine WR_x (Ex.mono hCS (X_load rfl ty370 rfl (Cell.own (b:=bo) zM rfl))) rfl ?_
 refine WR_x (Ex.mono hCS (X_move rfl)) rfl ?_
 refine WR_x (Ex.mono hCS (X_lookup (a:=x) (kf:=(Value.int .u64)) (l:=l) (cl:=c) (b:=bm) (zE:=.int .i64 0) rfl rfl keyU ty370 zE zM)) rfl ?_
 simp only [Bool.false_eq_true,if_false]
 rw [hO.get]
 refine WR_x (Ex.mono hCS (X_load rfl ty215 rfl (Cell.own (b:=b2) zM rfl))) rfl ?_
 refine WR_x (Ex.mono hCS (X_nilCheck rfl)) rfl ?_
 refine WR_x (Ex.mono hCS (X_fieldAddr rfl fld372_2 zd)) rfl ?_
 refine WR_x (Ex.mono hCS (X_load rfl ty370 rfl (Cell.own (b:=bo) zM rfl))) rfl ?_
 refine WR_x (Ex.mono hCS (X_move rfl)) rfl ?_
 refine WR_x (Ex.mono hCS (X_lookup (a:=y) (kf:=(Value.int .u64)) (l:=l) (cl:=c) (b:=bm) (zE:=.int .i64 0) rfl rfl keyU ty370 zE zM)) rfl ?_
 simp only [Bool.false_eq_true,if_false]
 rw [hO.get]
 refine WR_call (.cons rfl (.cons rfl .nil)) Tryz.call313 rfl (fun w _=>Tryz.cmp_Compare_int (kv m τ x) (kv m τ y) w) ?_
 refine WR_x (Ex.mono hCS (X_assign rfl)) rfl ?_
 exact WR_ret Tryz.results312 rfl
open Go.Proofs in
theorem sortU_L {room last c bo bm b2:Nat} {m:List Int} {l:Ents Int} {τ:Int→Nat} (hO:OrdIs room m last l c τ) {w0:World} {H:Heap} {b tot cap:Nat} {d:List Int} (hd:d.length<4611686018427387904) :
  LCalls Tryz.prog w0 311 #[.slice (some ⟨b,0,none⟩) d.length cap,.func (.func 312) #[] #[.pointer (some ⟨b2,0,none⟩)]] ((b,.cells 30 tot (d.map (Value.int .u64)))::(b2,.cells 215 1 [.pointer (some ⟨bo,0,none⟩)])::(bo,.cells 372 3 [.int .i64 (room:Int),.int .i64 ((last:Nat):Int),.map (some bm)])::(bm,.obj (mapO (Value.int .u64) l c))::H)
   (fun v H'=>v=.tuple #[]∧∃ d':List Int,d'.Perm d∧(∀ (i j:Nat) x y,i<j→d'[i]?=some x→d'[j]?=some y→ltOf (fun x y=>Lib.compareInt (kv m τ x) (kv m τ y)) y x=false)∧H'=(b,.cells 30 tot (d'.map (Value.int .u64)))::(b2,.cells 215 1 [.pointer (some ⟨bo,0,none⟩)])::(bo,.cells 372 3 [.int .i64 (room:Int),.int .i64 ((last:Nat):Int),.map (some bm)])::(bm,.obj (mapO (Value.int .u64) l c))::H) :=
 L_sort fun w hs=>by
  have hlt:b<w.heap.size:=(hs.own _ List.mem_cons_self).2.lt
  have:=Tryz.slices_SortFunc_f311 (Value.int .u64) (fun _=>rfl) (fun x y=>Lib.compareInt (kv m τ x) (kv m τ y)) (swo_key (kv m τ)) 312 #[.pointer (some ⟨b2,0,none⟩)] b 0 cap d.toArray w Tryz.call312 (Go.Proofs.CmpReads.lays fun n os dk hdk x y=>by
   have hsz:dk.size=d.length:=by rw [hdk]; simp
   have hS:Sat w0 ((b,.cells 30 tot (dk.toList.map (Value.int .u64)))::(b2,.cells 215 1 [.pointer (some ⟨bo,0,none⟩)])::(bo,.cells 372 3 [.int .i64 (room:Int),.int .i64 ((last:Nat):Int),.map (some bm)])::(bm,.obj (mapO (Value.int .u64) l c))::H) (sortWorld (Value.int .u64) w b 0 n dk os):=sat_sortWorld hs hsz
   have h:=cmpU_reads (C:=fun w'=>∃ q,w'=(sortWorld (Value.int .u64) w b 0 n dk os).drewN q) hO (fun w' ⟨q,e⟩=>⟨q+1,by rw [e]; rfl⟩) (fun w' ⟨q,e⟩=>by rw [e]; exact (hS.drewN q).drop) x y _ ⟨0,rfl⟩
   exact callsIn_wide.1 h) (holds_row hs) hlt (by simpa using hd)
  simpa using this
theorem bitsLen0:Pure Tryz.prog (fun _=>True) 227 [.int .u64 0] (.int .i64 (Lib.bitLen (0:Int).toNat:Nat)):=fun _ _ _ =>
 L_of_below (T:=fun _=>True) (fun w _=>(Tryz.bits_Len 0 w zd zd).mono fun _ _ ⟨h1,h2⟩=>⟨h1,h2 ▸ Go.RowKit.Below.refl _ _⟩) (fun _ _=>trivial)
structure RevAt {K:Type} (d:List K) (i:Nat) (e:List K):Prop where
 len:e.length=d.length
 at_:∀ k,k<d.length→e[k]?=if k<i∨d.length-i≤k then d[d.length-1-k]? else d[k]?
theorem RevAt.zero {K:Type} (d:List K):RevAt d 0 d:=⟨rfl,fun k hk=>by rw [if_neg (by omega)]⟩
theorem RevAt.swap {K:Type} {d e:List K} {i:Nat} {x y:K} (h:RevAt d i e) (hi:2*i+1<d.length) (hx:e[i]?=some x) (hy:e[d.length-1-i]?=some y):RevAt d (i+1) ((e.set i y).set (d.length-1-i) x):=by
 refine ⟨by rw [List.length_set,List.length_set]; exact h.len,fun k hk=>?_⟩
 have hl:=h.len
 have ei:e[i]?=d[i]?:=by rw [h.at_ i (by omega),if_neg (by omega)]
 have ej:e[d.length-1-i]?=d[d.length-1-i]?:=by rw [h.at_ _ (by omega),if_neg (by omega)]
 by_cases h1:k=d.length-1-i
 ·subst h1
  rw [List.getElem?_set_self (by rw [List.length_set]; omega),if_pos (by omega),← hx,ei]
  congr 1; omega
 ·rw [List.getElem?_set_ne (fun e=>h1 e.symm)]
  by_cases h2:k=i
  ·subst h2
   rw [List.getElem?_set_self (by omega),if_pos (by omega),← hy,ej]
  ·rw [List.getElem?_set_ne (fun e=>h2 e.symm),h.at_ k hk]
   by_cases h3:k<i∨d.length-i≤k
   ·rw [if_pos h3,if_pos (by omega)]
   ·rw [if_neg h3,if_neg (by omega)]
theorem RevAt.over {K:Type} {d e:List K} {i:Nat} (h:RevAt d i e) (hi:d.length≤2*i+1):e=d.reverse:=by
 refine List.ext_getElem? fun k=>?_
 by_cases hk:k<d.length
 ·rw [List.getElem?_reverse hk,h.at_ k hk]
  by_cases h3:k<i∨d.length-i≤k
  ·rw [if_pos h3]
  ·rw [if_neg h3]; congr 1; omega
 ·rw [List.getElem?_eq_none (by rw [h.len]; omega),List.getElem?_eq_none (by simp; omega)]
theorem insU_nil (fv:Value):Pure Tryz.prog (fun _=>True) 420 [.slice none 0 0,.int .i64 0,.int .i64 0,fv] (.tuple #[]):=by
 intro w0 H hT
 refine L_enter Tryz.func420 rfl Tryz.ntmps420 rfl rfl ?_
 refine W_sr (W_move rfl rfl (W_bin rfl rfl (b_add (m:=1) zd) rfl ?_))
 refine W_assign rfl rfl (W_nil (W_block ?_))
 refine W_loopC (X:=Unit) [(0,_),(1,_),(2,_),(3,_)] (fun (u:Unit)=>[(8,.int .i64 1)]) (fun _=>_) (fun _=>_) (fun (u:Unit)=>True) (fun (u:Unit)=>0) () trivial (sub_cons rfl (sub_cons rfl (sub_cons rfl (sub_cons rfl (sub_nil _))))) (sub_cons rfl (sub_nil _)) rfl zH ?_
 intro u hI
 simp only [List.cons_append,List.nil_append]
 refine W_seq (W_sr (W_move rfl rfl (W_move rfl rfl (W_bin rfl rfl b_lss rfl ?_))))
 refine W_nil (W_condF rfl zd ?_)
 refine W_exit rfl ?_
 refine W_end0m (H2:=H) Tryz.results420 (.nil _) zH ?_
 exact ⟨rfl,rfl⟩
theorem pdqU_nil (lim:Int) (fv:Value):Pure Tryz.prog (fun _=>True) 386 [.slice none 0 0,.int .i64 0,.int .i64 0,.int .i64 lim,fv] (.tuple #[]):=by
 intro w0 H hT
 refine L_enter Tryz.func386 rfl Tryz.ntmps386 rfl rfl ?_
 refine W_sr (W_assign rfl rfl (W_nil (W_sr (W_assign rfl rfl (W_nil (W_block ?_))))))
 refine W_loopC (X:=Unit) [(0,_),(4,_)] (fun (u:Unit)=>[(1,.int .i64 0),(2,.int .i64 0)]) (fun _=>_) (fun _=>_) (fun (u:Unit)=>True) (fun (u:Unit)=>0) () trivial (sub_cons rfl (sub_cons rfl (sub_nil _))) (sub_cons rfl (sub_cons rfl (sub_nil _))) rfl zH ?_
 intro u hI
 simp only [List.cons_append,List.nil_append]
 refine W_block (W_sr (W_move rfl rfl (W_move rfl rfl (W_bin rfl rfl (b_sub (m:=0) zd) rfl ?_))))
 refine W_assign rfl rfl (W_nil (W_seq (W_sr (W_move rfl rfl (W_bin rfl rfl b_leq rfl ?_)))))
 refine W_nil (W_condT rfl zd ?_)
 refine W_sr (W_move rfl rfl (W_move rfl rfl (W_move rfl rfl (W_move rfl rfl ?_))))
 refine W_callp (.cons rfl (.cons rfl (.cons rfl (.cons rfl .nil)))) Tryz.call420 rfl (T:=fun _=>True) trivial (insU_nil fv) ?_
 refine W_nil (W_ret0m (H2:=H) Tryz.results386 (.nil _) zH ?_)
 exact ⟨rfl,rfl⟩
theorem srtU_nil (fv:Value):Pure Tryz.prog (fun _=>True) 311 [.slice none 0 0,fv] (.tuple #[]):=by
 intro w0 H hT
 refine L_enter Tryz.func311 rfl Tryz.ntmps311 rfl rfl ?_
 refine W_sr (W_move rfl rfl (W_len rfl ty84 rfl rfl ?_))
 refine W_assign rfl rfl (W_nil (W_region (W_move rfl rfl (W_move rfl rfl (W_move rfl rfl (W_conv (m:=0) rfl ty3 ty357 zd rfl ?_))))))
 refine W_callp (.cons rfl .nil) Tryz.call227 rfl (T:=fun _=>True) trivial bitsLen0 ?_
 refine W_move rfl rfl ?_
 refine W_callp (.cons rfl (.cons rfl (.cons rfl (.cons rfl (.cons rfl .nil))))) Tryz.call386 rfl (T:=fun _=>True) trivial (pdqU_nil _ fv) ?_
 refine W_nil (W_end0m (H2:=H) Tryz.results311 (.nil _) zH ?_)
 exact ⟨rfl,rfl⟩
theorem revU_nil :Pure Tryz.prog (fun _=>True) 314 [.slice none 0 0] (.tuple #[]):=by
 intro w0 H hT
 refine L_enter Tryz.func314 rfl Tryz.ntmps314 rfl rfl ?_
 refine W_sr (W_move rfl rfl (W_len rfl ty84 rfl rfl ?_))
 refine W_bin rfl rfl (b_sub (m:=-1) zd) rfl ?_
 refine W_assign rfl rfl (W_assign rfl rfl (W_nil (W_block ?_)))
 refine W_loopC (X:=Unit) [(0,_)] (fun (u:Unit)=>[(2,.int .i64 0),(3,.int .i64 (-1))]) (fun _=>_) (fun _=>_) (fun (u:Unit)=>True) (fun (u:Unit)=>0) () trivial (sub_cons rfl (sub_nil _)) (sub_cons rfl (sub_cons rfl (sub_nil _))) rfl zH ?_
 intro u hI
 simp only [List.cons_append,List.nil_append]
 refine W_seq (W_sr (W_move rfl rfl (W_move rfl rfl (W_bin rfl rfl b_lss rfl ?_))))
 refine W_nil (W_condF rfl zd ?_)
 refine W_exit rfl ?_
 refine W_end0m (H2:=H) Tryz.results314 (.nil _) zH ?_
 exact ⟨rfl,rfl⟩
theorem revU_L {w0:World} {H:Heap} {b tot cap:Nat} {d:List Int} (hd:d.length≤4611686018427387904) :LCalls Tryz.prog w0 314 #[.slice (some ⟨b,0,none⟩) d.length cap] ((b,.cells 30 tot (d.map (Value.int .u64)))::H) (fun v H'=>v=.tuple #[]∧H'=(b,.cells 30 tot (d.reverse.map (Value.int .u64)))::H):=by
 refine L_enter (l:=[.slice (some ⟨b,0,none⟩) d.length cap]) Tryz.func314 rfl Tryz.ntmps314 rfl rfl ?_
 refine W_sr (W_move rfl rfl (W_len rfl ty84 rfl rfl ?_))
 refine W_bin rfl rfl (b_sub (m:=(d.length:Int)-1) (i64wO zO)) rfl ?_
 refine W_assign rfl rfl (W_assign rfl rfl (W_nil (W_block ?_)))
 refine W_loopC (X:=(Nat × List Int)) [(0,_)] (fun (x:(Nat × List Int))=>[(2,.int .i64 (x.1:Int)),(3,.int .i64 ((d.length:Int)-1-x.1))]) (fun _=>_) (fun (x:(Nat × List Int))=>(b,.cells 30 tot (x.2.map (Value.int .u64)))::H) (fun (x:(Nat × List Int))=>2*x.1≤d.length∧RevAt d x.1 x.2) (fun (x:(Nat × List Int))=>d.length-x.1) (0,d) ⟨Nat.zero_le _,RevAt.zero d⟩ (sub_cons rfl (sub_nil _)) (sub_cons rfl (sub_cons (by simp; rfl) (sub_nil _))) rfl zH ?_
 rintro ⟨i,e⟩ ⟨hi,hR⟩
 dsimp only at hi hR ⊢
 have hel:=hR.len
 simp only [List.cons_append,List.nil_append]
 refine W_seq (W_sr (W_move rfl rfl (W_move rfl rfl (W_bin rfl rfl b_lss rfl ?_))))
 refine W_nil ?_
 refine W_condPS (p:=(i:Int)<(d.length:Int)-1-i) rfl (by simp) (fun c0=>?_) (fun c0=>?_)
 ·skip
  refine W_skip (W_seq (W_block ?_))
  obtain ⟨x,hx⟩:∃ x,e[i]?=some x:=⟨_,List.getElem?_eq_getElem zO⟩
  obtain ⟨y,hy⟩:∃ y,e[d.length-1-i]?=some y:=⟨_,List.getElem?_eq_getElem zO⟩
  refine W_cut [(0,.slice (some ⟨b,0,none⟩) d.length cap),(2,.int .i64 (i:Int)),(3,.int .i64 ((d.length:Int)-1-i))] ((b,.cells 30 tot (((e.set i y).set (d.length-1-i) x).map (Value.int .u64)))::H) ?_ ?_
  ·skip
   refine W_any zk ?_
   refine WA_take 0 (l':=#[true,false,false,false,false,false,false,false,false,false,false,false,false,false,false,false]) rfl zK zK zK (fun _ h=>by cases h) (fun _ h=>by cases h) zK (X_move rfl) rfl ?_
   refine WA_take 1 (l':=#[true,true,false,false,false,false,false,false,false,false,false,false,false,false,false,false]) rfl zK zK zK (fun _ h=>by cases h) (fun _ h=>by cases h) zK (X_move rfl) rfl ?_
   refine WA_take 2 (l':=#[true,true,true,false,false,false,false,false,false,false,false,false,false,false,false,false]) rfl zK zK zK (fun _ h=>by cases h) (fun _ h=>by cases h) zK (X_move rfl) rfl ?_
   refine WA_take 3 (l':=#[true,true,true,true,false,false,false,false,false,false,false,false,false,false,false,false]) rfl zK zK zK (fun _ h=>by cases h) (fun _ h=>by cases h) zK (X_move rfl) rfl ?_
   refine WA_take 4 (l':=#[true,true,true,true,true,false,false,false,false,false,false,false,false,false,false,false]) rfl zK zK zK (fun _ h=>by cases h) (fun _ h=>by cases h) zK (X_move rfl) rfl ?_
   refine WA_take 5 (l':=#[true,true,true,true,true,true,false,false,false,false,false,false,false,false,false,false]) rfl zK zK zK (fun _ h=>by cases h) (fun _ h=>by cases h) zK (X_move rfl) rfl ?_
   refine WA_take 6 (l':=#[true,true,true,true,true,true,true,false,false,false,false,false,false,false,false,false]) rfl zK zK zK (fun _ h=>by cases h) (fun _ h=>by cases h) zK (X_indexAddr (j:=(d.length-1-i)) rfl rfl ty84 ty30 (by first | rfl | omega) zO (Nat.zero_add _)) rfl ?_
   refine WA_take 8 (l':=#[true,true,true,true,true,true,true,false,true,false,false,false,false,false,false,false]) rfl zK zK zK (fun _ h=>by cases h) (fun _ h=>by cases h) zK (X_move rfl) rfl ?_
   refine WA_take 9 (l':=#[true,true,true,true,true,true,true,false,true,true,false,false,false,false,false,false]) rfl zK zK zK (fun _ h=>by cases h) (fun _ h=>by cases h) zK (X_move rfl) rfl ?_
   refine WA_take 10 (l':=#[true,true,true,true,true,true,true,false,true,true,true,false,false,false,false,false]) rfl zK zK zK (fun _ h=>by cases h) (fun _ h=>by cases h) zK (X_indexAddr (j:=i) rfl rfl ty84 ty30 (by first | rfl | omega) zO (Nat.zero_add _)) rfl ?_
   refine WA_two 7 11 (l':=#[true,true,true,true,true,true,true,true,true,true,true,false,false,false,false,false]) (l'':=#[true,true,true,true,true,true,true,false,true,true,true,true,false,false,false,false]) zK rfl rfl zK zK ?_ ?_
   ·skip
    refine W_load (v:=(Value.int .u64) y) rfl ty30 rfl (Cell.own (b:=b) zM (by rw [Nat.mul_one,List.getElem?_map,hy]; rfl)) rfl ?_
    refine W_nil ?_
    refine WA_goal ?_
    refine WA_one 11 (l':=#[true,true,true,true,true,true,true,true,true,true,true,true,false,false,false,false]) zK rfl zK (fun _ h=>by cases h) ?_
    refine W_load (v:=(Value.int .u64) x) rfl ty30 rfl (Cell.own (b:=b) zM (by rw [Nat.mul_one,List.getElem?_map,hx]; rfl)) rfl ?_
    refine W_nil ?_
    refine WA_goal ?_
    refine WA_take 12 (l':=#[true,true,true,true,true,true,true,true,true,true,true,true,true,false,false,false]) rfl zK zK zK (fun _ h=>by cases h) (fun _ h=>by cases h) zK (X_indexAddr (j:=i) rfl rfl ty84 ty30 (by first | rfl | omega) zO (Nat.zero_add _)) rfl ?_
    refine WA_one 13 (l':=#[true,true,true,true,true,true,true,true,true,true,true,true,true,true,false,false]) zK rfl zK (fun _ h=>by cases h) ?_
    refine W_store (l:=(e).map (Value.int .u64)) (l':=((e).set i y).map (Value.int .u64)) rfl rfl ty30 rfl rfl (b:=b) zM (by rw [Nat.mul_one,List.length_map]; simp; omega) (by rw [Nat.mul_one]; simp only [List.map_set]) zU ?_
    refine W_nil ?_
    refine WA_goal ?_
    refine WA_take 14 (l':=#[true,true,true,true,true,true,true,true,true,true,true,true,true,true,true,false]) rfl zK zK zK (fun _ h=>by cases h) (fun _ h=>by cases h) zK (X_indexAddr (j:=(d.length-1-i)) rfl rfl ty84 ty30 (by first | rfl | omega) zO (Nat.zero_add _)) rfl ?_
    refine WA_one 15 (l':=#[true,true,true,true,true,true,true,true,true,true,true,true,true,true,true,true]) zK rfl zK (fun _ h=>by cases h) ?_
    refine W_store (l:=(e.set i y).map (Value.int .u64)) (l':=((e.set i y).set (d.length-1-i) x).map (Value.int .u64)) rfl rfl ty30 rfl rfl (b:=b) zM (by rw [Nat.mul_one,List.length_map]; simp; omega) (by rw [Nat.mul_one]; simp only [List.map_set]) zU ?_
    refine W_nil ?_
    refine WA_goal ?_
    refine WA_done zK ?_
    refine W_joined (sub_cons rfl (sub_cons rfl (sub_cons rfl (sub_nil _)))) zH
   ·skip
    refine W_load (v:=(Value.int .u64) x) rfl ty30 rfl (Cell.own (b:=b) zM (by rw [Nat.mul_one,List.getElem?_map,hx]; rfl)) rfl ?_
    refine W_nil ?_
    refine WA_goal ?_
    refine WA_one 7 (l':=#[true,true,true,true,true,true,true,true,true,true,true,true,false,false,false,false]) zK rfl zK (fun _ h=>by cases h) ?_
    refine W_load (v:=(Value.int .u64) y) rfl ty30 rfl (Cell.own (b:=b) zM (by rw [Nat.mul_one,List.getElem?_map,hy]; rfl)) rfl ?_
    refine W_nil ?_
    refine WA_goal ?_
    refine WA_take 12 (l':=#[true,true,true,true,true,true,true,true,true,true,true,true,true,false,false,false]) rfl zK zK zK (fun _ h=>by cases h) (fun _ h=>by cases h) zK (X_indexAddr (j:=i) rfl rfl ty84 ty30 (by first | rfl | omega) zO (Nat.zero_add _)) rfl ?_
    refine WA_one 13 (l':=#[true,true,true,true,true,true,true,true,true,true,true,true,true,true,false,false]) zK rfl zK (fun _ h=>by cases h) ?_
    refine W_store (l:=(e).map (Value.int .u64)) (l':=((e).set i y).map (Value.int .u64)) rfl rfl ty30 rfl rfl (b:=b) zM (by rw [Nat.mul_one,List.length_map]; simp; omega) (by rw [Nat.mul_one]; simp only [List.map_set]) zU ?_
    refine W_nil ?_
    refine WA_goal ?_
    refine WA_take 14 (l':=#[true,true,true,true,true,true,true,true,true,true,true,true,true,true,true,false]) rfl zK zK zK (fun _ h=>by cases h) (fun _ h=>by cases h) zK (X_indexAddr (j:=(d.length-1-i)) rfl rfl ty84 ty30 (by first | rfl | omega) zO (Nat.zero_add _)) rfl ?_
    refine WA_one 15 (l':=#[true,true,true,true,true,true,true,true,true,true,true,true,true,true,true,true]) zK rfl zK (fun _ h=>by cases h) ?_
    refine W_store (l:=(e.set i y).map (Value.int .u64)) (l':=((e.set i y).set (d.length-1-i) x).map (Value.int .u64)) rfl rfl ty30 rfl rfl (b:=b) zM (by rw [Nat.mul_one,List.length_map]; simp; omega) (by rw [Nat.mul_one]; simp only [List.map_set]) zU ?_
    refine W_nil ?_
    refine WA_goal ?_
    refine WA_done zK ?_
    refine W_joined (sub_cons rfl (sub_cons rfl (sub_cons rfl (sub_nil _)))) zH
  refine W_blk (W_region (W_move rfl rfl (W_bin rfl rfl (b_add (m:=((i+1:Nat):Int)) ((i64wO zO).trans zO)) rfl ?_)))
  refine W_move rfl rfl (W_bin rfl rfl (b_sub (m:=(d.length:Int)-1-((i+1:Nat):Int)) ((i64wO zO).trans zO)) rfl ?_)
  refine W_assign rfl rfl (W_assign rfl rfl (W_nil ?_))
  refine W_again (i+1,(e.set i y).set (d.length-1-i) x) ⟨by show 2*(i+1)≤d.length; omega,hR.swap zO hx hy⟩ (by show d.length-(i+1)<d.length-i; omega) (sub_cons rfl (sub_cons rfl (sub_cons rfl (sub_nil _)))) rfl zH
 ·skip
  refine W_exit rfl ?_
  refine W_end0m Tryz.results314 (.nil _) (.refl _) ?_
  obtain rfl:=hR.over zO
  exact ⟨rfl,rfl⟩
theorem own_orO {e:TypeId} {s:Nat} {v:Value} {n:Nat} {xs:List Value} {HB:Heap} (h:OwnS e s v n xs HB):(v=.slice none 0 0∧n=0∧xs=[]∧HB=[])∨∃ b cap,v=.slice (some ⟨b,0,none⟩) n cap∧HB=[(b,.cells e (cap*s) xs)]∧n≤cap∧cap≤maxLen:=by
 cases h with
 | nil=>exact .inl ⟨rfl,rfl,rfl,rfl⟩
 | own h1 h2 h3=>exact .inr ⟨_,_,rfl,rfl,h2,h3⟩
theorem sortedU_L {w0:World} {H:Heap} {room last c bo bm:Nat} {m:List Int} {l:Ents Int} {τ:Int→Nat} (hO:OrdIs room m last l c τ) (bk:Bool) (h64:room≤64) :LCalls Tryz.prog w0 224 #[.pointer (some ⟨bo,0,none⟩),.bool bk] ((bo,.cells 372 3 [.int .i64 (room:Int),.int .i64 ((last:Nat):Int),.map (some bm)])::(bm,.obj (mapO (Value.int .u64) l c))::H) (fun v H'=>∃ bl sv HB,v=.func (.func 315) #[] #[.pointer (some ⟨bl,0,none⟩)]∧OwnS 30 1 sv (if bk then m.reverse else m).length ((if bk then m.reverse else m).map (Value.int .u64)) HB∧H'=(bl,.cells 84 1 [sv])::(HB++((bo,.cells 372 3 [.int .i64 (room:Int),.int .i64 ((last:Nat):Int),.map (some bm)])::(bm,.obj (mapO (Value.int .u64) l c))::H))):=by
 refine L_enter (l:=[.pointer (some ⟨bo,0,none⟩),.bool bk]) Tryz.func224 rfl Tryz.ntmps224 rfl rfl ?_
 refine W_sr ?_
 refine W_box rfl rfl rfl (fun b2=>?_)
 refine W_assign rfl rfl (W_nil (W_sr ?_))
 refine W_alloc ty84 rfl rfl (fun b5=>?_)
 refine W_nil (W_seq (W_sr (W_load rfl ty215 rfl (Cell.own (b:=b2) zM rfl) rfl ?_)))
 refine W_x (X_ptrNotNil rfl rfl ty215) (fun _ h=>by cases h) rfl ?_
 refine W_nil (W_condT rfl rfl (W_seq (W_sr (W_load rfl ty215 rfl (Cell.own (b:=b2) zM rfl) rfl ?_))))
 refine W_nilCheck rfl rfl (W_fieldAddr rfl fld372_2 zd rfl ?_)
 refine W_load rfl ty370 rfl (Cell.own (b:=bo) zM rfl) rfl ?_
 refine W_range (kf:=(Value.int .u64)) (l:=l) (cl:=c) rfl ty370 zM rfl (fun r=>?_)
 refine W_nil (W_block ?_)
 refine W_loopC (X:=(Ents Int × Value × Heap)) [(1,_),(2,_),(5,_),(13,_)] (fun (x:(Ents Int × Value × Heap))=>[]) (fun _=>_) (fun (x:(Ents Int × Value × Heap))=>(r,.obj (iterO bm c (x.1.map (·.2.2)) c))::(b5,.cells 84 1 [x.2.1])::(b2,.cells 215 1 [.pointer (some ⟨bo,0,none⟩)])::(x.2.2++((bo,.cells 372 3 [.int .i64 (room:Int),.int .i64 ((last:Nat):Int),.map (some bm)])::(bm,.obj (mapO (Value.int .u64) l c))::H))) (fun (x:(Ents Int × Value × Heap))=>(x.1.map (·.2.2)).Nodup∧(∀ p∈x.1,p∈l)∧OwnS 30 1 x.2.1 (x.1.map (·.1)).length ((x.1.map (·.1)).map (Value.int .u64)) x.2.2) (fun (x:(Ents Int × Value × Heap))=>l.length-x.1.length) ([],.slice none 0 0,[]) ⟨.nil,(fun p hp=>(by cases hp)),.nil⟩ (sub_cons rfl (sub_cons rfl (sub_cons rfl (sub_cons rfl (sub_nil _))))) (sub_nil _) rfl (HSub.refl _) ?_
 rintro ⟨vs,xv,XB⟩ ⟨hnd,hin,hX⟩
 dsimp only at hnd hin hX ⊢
 simp only [List.cons_append,List.nil_append]
 refine W_sr ?_
 refine W_next (kf:=(Value.int .u64)) (l:=l) (cl:=c) (b:=bm) (r:=r) (since:=c) (c0:=c) (sl:=vs.map (·.2.2)) (HN:=fun p=>(r,.obj (iterO bm c (vs.map (·.2.2)++[p.2.2]) c))::(b5,.cells 84 1 [xv])::(b2,.cells 215 1 [.pointer (some ⟨bo,0,none⟩)])::(XB++((bo,.cells 372 3 [.int .i64 (room:Int),.int .i64 ((last:Nat):Int),.map (some bm)])::(bm,.obj (mapO (Value.int .u64) l c))::H))) rfl zM zM hO.ok.lt (Nat.le_refl _) (fun p=>.head _) rfl (fun hall=>?_) (fun p hp hnp=>?_)
 ·skip
  refine W_extract rfl rfl rfl (W_nil (W_seq (W_condF rfl rfl (W_exit rfl ?_))))
  refine W_region ?_
  have hp:=visit_perm hO.ok hnd hin hall
  have hpm:(vs.map (·.1)).Perm m:=(hp.map _).trans hO.keys
  have hlen:(vs.map (·.1)).length=m.length:=hpm.length_eq
  rcases own_orO hX with ⟨rfl,hn0,-,rfl⟩ | ⟨b,cap,rfl,rfl,hcap,hmax⟩
  ·skip
   refine W_load (v:=.slice none 0 0) rfl ty84 rfl (Cell.own (b:=b5) zM rfl) rfl ?_
   refine W_makeFunc .nil (.cons rfl .nil) rfl ?_
   refine W_callp (.cons rfl (.cons rfl .nil)) Tryz.call311 rfl (T:=fun _=>True) trivial (srtU_nil _) ?_
   refine W_nil (W_seq (W_sr (W_move rfl rfl (W_nil ?_))))
   refine W_condS rfl (fun c0=>?_) (fun c0=>?_)
   ·skip
    refine W_region (W_load (v:=.slice none 0 0) rfl ty84 rfl (Cell.own (b:=b5) zM rfl) rfl ?_)
    refine W_callp (.cons rfl .nil) Tryz.call314 rfl (T:=fun _=>True) trivial revU_nil ?_
    refine W_nil (W_sr (W_makeFunc .nil (.cons rfl .nil) rfl ?_))
    refine W_assign rfl rfl (W_nil (W_ret1m (H2:=(b5,.cells 84 1 [.slice none 0 0])::([]++((bo,.cells 372 3 [.int .i64 (room:Int),.int .i64 ((last:Nat):Int),.map (some bm)])::(bm,.obj (mapO (Value.int .u64) l c))::H))) Tryz.results224 rfl (.nil _) zH ?_))
    have hm0:m=[]:=List.eq_nil_of_length_eq_zero zO
    subst hm0
    exact ⟨b5,.slice none 0 0,[],rfl,by rw [if_pos c0]; exact .nil,rfl⟩
   ·skip
    refine W_skip (W_sr (W_makeFunc .nil (.cons rfl .nil) rfl ?_))
    refine W_assign rfl rfl (W_nil (W_ret1m (H2:=(b5,.cells 84 1 [.slice none 0 0])::([]++((bo,.cells 372 3 [.int .i64 (room:Int),.int .i64 ((last:Nat):Int),.map (some bm)])::(bm,.obj (mapO (Value.int .u64) l c))::H))) Tryz.results224 rfl (.nil _) zH ?_))
    have hm0:m=[]:=List.eq_nil_of_length_eq_zero zO
    subst hm0
    exact ⟨b5,.slice none 0 0,[],rfl,by rw [if_neg (by rw [c0]; simp)]; exact .nil,rfl⟩
  ·skip
   refine W_load (v:=.slice (some ⟨b,0,none⟩) (vs.map (·.1)).length cap) rfl ty84 rfl (Cell.own (b:=b5) zM rfl) rfl ?_
   refine W_makeFunc .nil (.cons rfl .nil) rfl ?_
   rw [List.singleton_append]
   have hcc:=sortU_L (w0:=w0) (b2:=b2) (bo:=bo) (bm:=bm) (H:=(b5,.cells 84 1 [.slice (some ⟨b,0,none⟩) (vs.map (·.1)).length cap])::H) (b:=b) (tot:=cap*1) (cap:=cap) (d:=vs.map (·.1)) hO (by have:=hO.le; omega)
   refine W_call (.cons rfl (.cons rfl .nil)) Tryz.call311 rfl (hcc.hsub (.cons zT (.cons zT (.cons zT (.cons zT (.cons zT (.drop (.refl _)))))))) ?_
   rintro v H' ⟨rfl,d',hd',hsd,rfl⟩
   obtain rfl:d'=m:=sorted_isO (hd'.trans hpm) hO.nodup hO.asc hsd
   rw [hlen]
   refine W_nil (W_seq (W_sr (W_move rfl rfl (W_nil ?_))))
   refine W_condS rfl (fun c0=>?_) (fun c0=>?_)
   ·skip
    refine W_region (W_load (v:=(.slice (some ⟨b,0,none⟩) d'.length cap)) rfl ty84 rfl (Cell.own (b:=b5) zM rfl) rfl ?_)
    refine W_call (.cons rfl .nil) Tryz.call314 rfl ((revU_L (b:=b) (tot:=cap*1) (cap:=cap) (d:=d') (by have:=hO.le; omega)).hsub (.cons zT (.refl _))) ?_
    rintro v H' ⟨rfl,rfl⟩
    refine W_nil (W_sr (W_makeFunc .nil (.cons rfl .nil) rfl ?_))
    refine W_assign rfl rfl (W_nil (W_ret1m (H2:=(b5,.cells 84 1 [(.slice (some ⟨b,0,none⟩) d'.length cap)])::([(b,.cells 30 (cap*1) ((d'.reverse).map (Value.int .u64)))]++((bo,.cells 372 3 [.int .i64 (room:Int),.int .i64 ((last:Nat):Int),.map (some bm)])::(bm,.obj (mapO (Value.int .u64) l c))::H))) Tryz.results224 rfl (.nil _) zH ?_))
    refine ⟨b5,_,_,rfl,?_,rfl⟩
    rw [if_pos c0]
    have h:=OwnS.own (e:=30) (s:=1) (b:=b) (n:=(d'.reverse).length) (cap:=cap) (xs:=(d'.reverse).map (Value.int .u64)) (by simp) (by first | omega | (rw [List.length_reverse]; omega)) hmax
    rwa [List.length_reverse] at h ⊢
   ·skip
    refine W_skip (W_sr (W_makeFunc .nil (.cons rfl .nil) rfl ?_))
    refine W_assign rfl rfl (W_nil (W_ret1m (H2:=(b5,.cells 84 1 [(.slice (some ⟨b,0,none⟩) d'.length cap)])::([(b,.cells 30 (cap*1) ((d').map (Value.int .u64)))]++((bo,.cells 372 3 [.int .i64 (room:Int),.int .i64 ((last:Nat):Int),.map (some bm)])::(bm,.obj (mapO (Value.int .u64) l c))::H))) Tryz.results224 rfl (.nil _) zH ?_))
    refine ⟨b5,_,_,rfl,?_,rfl⟩
    rw [if_neg (by rw [c0]; simp)]
    have h:=OwnS.own (e:=30) (s:=1) (b:=b) (n:=(d').length) (cap:=cap) (xs:=(d').map (Value.int .u64)) (by simp) (by first | omega | (rw [List.length_reverse]; omega)) hmax
    exact h
 ·skip
  refine W_extract rfl rfl rfl (W_nil (W_seq (W_condT rfl rfl (W_skip (W_block (W_sr (W_entry (kf:=(Value.int .u64)) (l:=l) (cl:=c) (b:=bm) (r:=r) (since:=c) (sl:=vs.map (·.2.2)) (p:=p) rfl zM zM hp hO.ok rfl ?_)))))))
  refine W_extract rfl rfl rfl (W_assign rfl rfl (W_nil (W_region (W_load (v:=xv) rfl ty84 rfl (Cell.own (b:=b5) zM rfl) rfl ?_))))
  refine W_move rfl rfl ?_
  refine W_buildSlice (l:=[(Value.int .u64) p.1]) ty84 ty30 (.cons rfl rfl rfl rfl rfl .nil) rfl rfl rfl rfl rfl rfl rfl (fun b20=>?_)
  refine W_append (news:=[(Value.int .u64) p.1]) (m:=1) (HB:=XB) (H0:=(r,.obj (iterO bm c (vs.map (·.2.2)++[p.2.2]) c))::(b5,.cells 84 1 [xv])::(b2,.cells 215 1 [.pointer (some ⟨bo,0,none⟩)])::((bo,.cells 372 3 [.int .i64 (room:Int),.int .i64 ((last:Nat):Int),.map (some bm)])::(bm,.obj (mapO (Value.int .u64) l c))::H)) rfl rfl ty84 ty30 rfl (by decide) hX rfl (Holds.own List.mem_cons_self) rfl (by have:=visit_lt hnd hin hp hnp; rw [List.length_map]; have:=hO.len; have:=hO.le; simp only [maxLen]; omega) (by have:=visit_lt hnd hin hp hnp; rw [List.length_map]; have:=hO.len; have:=hO.le; omega) zH rfl (fun v' HB' hO'=>?_)
  refine W_store (l':=[v']) rfl rfl ty84 (by obtain ⟨a0,c0',e0,_⟩:=hO'.shape; rw [e0]; rfl) rfl (b:=b5) zM rfl rfl zU ?_
  refine W_nil (W_blk ?_)
  refine W_again (vs++[p],v',HB') ⟨by show ((vs++[p]).map (·.2.2)).Nodup; rw [List.map_append]; exact List.nodup_append.2 ⟨hnd,by simp,fun x hx y hy e=>hnp (by obtain rfl:y=p.2.2:=(by simpa using hy); exact e ▸ hx)⟩,fun q hq=>(List.mem_append.1 hq).elim (hin q) (fun h=>by obtain rfl:q=p:=(by simpa using h); exact hp),by show OwnS _ _ v' ((vs++[p]).map (·.1)).length (((vs++[p]).map (·.1)).map (Value.int .u64)) HB'; simp only [List.map_append,List.length_append,List.map_cons,List.map_nil,List.length_cons,List.length_nil] at hO' ⊢; exact hO'⟩ (by show l.length-(vs++[p]).length<l.length-vs.length; have:=visit_lt hnd hin hp hnp; rw [List.length_append,List.length_singleton]; omega) (sub_cons rfl (sub_cons rfl (sub_cons rfl (sub_cons rfl (sub_nil _))))) rfl (by simp only [List.map_append,List.map_cons,List.map_nil]; first | exact hsubI | (repeat (first | with_reducible exact HSub.refl _ | refine HSub.cons zT ?_ | refine HSub.app zS ?_ | exact HSub.nil _ | exact HSub.refl _ | refine HSub.drop ?_ | refine HSub.dropS ?_)))
theorem seqU_iter {w0:World} {H HB:Heap} {lp bl cap:Nat} {ad:Option Addr} {q:List Int} (J:Nat→Heap→Prop) (S:Heap→Prop) (hq:q.length≤4611686018427387904) (hrow:Holds w0 ((bl,.cells 84 1 [.slice ad q.length cap])::(HB++[])) ad (q.map (Value.int .u64)))
  (hround:∀ i z Hi,q[i]?=some z→J i Hi→RoundC Tryz.prog w0 lp #[(Value.int .u64) z] ((bl,.cells 84 1 [.slice ad q.length cap])::(HB++Hi)) (fun v H'=>∃ Hi',HSub H' ((bl,.cells 84 1 [.slice ad q.length cap])::(HB++Hi'))∧(v=.bool true∧J (i+1) Hi'∨v=.bool false∧S Hi'))) (hJ:J 0 H) :
  LCalls Tryz.prog w0 315 #[.func (.yield lp) #[] #[],.pointer (some ⟨bl,0,none⟩)] ((bl,.cells 84 1 [.slice ad q.length cap])::(HB++H)) (fun _ H'=>∃ Hi',HSub H' ((bl,.cells 84 1 [.slice ad q.length cap])::(HB++Hi'))∧(J q.length Hi'∨S Hi')):=by
 refine L_enter (l:=[.func (.yield lp) #[] #[],.pointer (some ⟨bl,0,none⟩)]) Tryz.func315 rfl Tryz.ntmps315 rfl rfl ?_
 refine W_sr (W_load (v:=.slice ad q.length cap) rfl ty84 rfl (Cell.own (b:=bl) zM rfl) rfl ?_)
 refine W_len rfl ty84 rfl rfl ?_
 refine W_move rfl rfl (W_nil (W_block ?_))
 refine W_loopC (X:=(Nat × Heap)) [(0,_),(5,_),(6,_)] (fun (x:(Nat × Heap))=>[(7,.int .i64 (x.1:Int))]) (fun _=>_) (fun (x:(Nat × Heap))=>(bl,.cells 84 1 [.slice ad q.length cap])::(HB++x.2)) (fun (x:(Nat × Heap))=>x.1≤q.length∧J x.1 x.2) (fun (x:(Nat × Heap))=>q.length-x.1) (0,H) ⟨Nat.zero_le _,hJ⟩ (sub_cons rfl (sub_cons rfl (sub_cons rfl (sub_nil _)))) (sub_cons rfl (sub_nil _)) rfl (HSub.refl _) ?_
 rintro ⟨i,Hi⟩ ⟨hi,hJi⟩
 dsimp only at hi hJi ⊢
 simp only [List.cons_append,List.nil_append]
 refine W_sr (W_bin rfl rfl b_lss rfl ?_)
 refine W_nil (W_seq ?_)
 refine W_condPS (p:=(i:Int)<(q.length:Int)) rfl (by simp) (fun c0=>?_) (fun c0=>?_)
 ·skip
  refine W_skip (W_seq (W_block (W_sr ?_)))
  obtain ⟨z,hz⟩:∃ z,q[i]?=some z:=⟨_,List.getElem?_eq_getElem zO⟩
  obtain ⟨q0,p0,rfl,hcz⟩:=hrow.at (i:=i) (v:=(Value.int .u64) z) (by rw [List.getElem?_map,hz]; rfl)
  refine W_indexAddr (j:=i) rfl rfl ty84 ty30 rfl zO rfl rfl ?_
  refine W_load (v:=(Value.int .u64) z) rfl ty30 rfl (by rw [Nat.mul_one]; exact hcz.up (.cons (.here _) (.app (.here _) (.nil _)))) rfl ?_
  refine W_assign rfl rfl (W_nil (W_sr (W_move rfl rfl (W_move rfl rfl (W_yield rfl (.cons rfl .nil) rfl (hround i z Hi hz hJi) ?_)))))
  rintro v H' ⟨Hi',hsub,⟨rfl,hJ'⟩ | ⟨rfl,hS'⟩⟩
  ·skip
   refine W_hsub hsub ?_
   refine W_not rfl rfl ?_
   refine W_nil (W_condF rfl rfl (W_skip (W_blk (W_region (W_bin rfl rfl (b_add (m:=((i+1:Nat):Int)) ((i64wO zO).trans zO)) rfl ?_)))))
   refine W_move rfl rfl (W_nil ?_)
   refine W_again (i+1,Hi') ⟨by show i+1≤q.length; omega,hJ'⟩ (by show q.length-(i+1)<q.length-i; omega) (sub_cons rfl (sub_cons rfl (sub_cons rfl (sub_cons rfl (sub_nil _))))) rfl (HSub.refl _)
  ·skip
   refine W_hsub hsub ?_
   refine W_not rfl rfl ?_
   refine W_nil (W_condT rfl rfl (W_ret0m Tryz.results315 (.nil _) (.refl _) ?_))
   exact ⟨Hi',.refl _,.inr hS'⟩
 ·skip
  refine W_exit rfl ?_
  refine W_end0m Tryz.results315 (.nil _) (.refl _) ?_
  obtain rfl:i=q.length:=by omega
  exact ⟨Hi,.refl _,.inl hJi⟩
def firstU (q:List Int):Value:=match q[0]? with
 | some z=>.tuple #[(Value.int .u64) z,.bool true]
 | none=>.tuple #[(.int .u64 0),.bool false]
theorem firstU_L {w0:World} {H HB:Heap} {bl cap:Nat} {ad:Option Addr} {q:List Int} (hq:q.length≤4611686018427387904) (hrow:Holds w0 ((bl,.cells 84 1 [.slice ad q.length cap])::(HB++[])) ad (q.map (Value.int .u64))) :
  LCalls Tryz.prog w0 238 #[.func (.func 315) #[] #[.pointer (some ⟨bl,0,none⟩)]] ((bl,.cells 84 1 [.slice ad q.length cap])::(HB++H)) (fun v H'=>v=firstU q∧H'=(bl,.cells 84 1 [.slice ad q.length cap])::(HB++H)):=by
 refine L_enter (l:=[.func (.func 315) #[] #[.pointer (some ⟨bl,0,none⟩)]]) Tryz.func238 rfl Tryz.ntmps238 rfl rfl ?_
 refine W_sr ?_
 refine W_alloc ty30 rfl rfl (fun b2=>?_)
 refine W_alloc ty4 rfl rfl (fun b3=>?_)
 refine W_nil (W_seq (W_sr (W_move rfl rfl (W_nil (W_block (W_rangeFunc rfl Tryz.call315 ?_))))))
 intro lp D r hst hpd hps hasg hbody hA
 have hr:=loop_ready hst hpd
 show LCalls _ _ _ #[_,_] _ _
 refine ((seqU_iter (HB:=HB) (bl:=bl) (ad:=ad) (cap:=cap) (q:=q) (H:=(lp,.obj (.loop r))::(D,.obj (.deferred (some [])))::(b3,.cells 4 1 [.bool false])::(b2,.cells 30 1 [(.int .u64 0)])::H) (fun i Hi=>i=0∧Hi=(lp,.obj (.loop r))::(D,.obj (.deferred (some [])))::(b3,.cells 4 1 [.bool false])::(b2,.cells 30 1 [(.int .u64 0)])::H) (fun Hi=>∃ z,q[0]?=some z∧Hi=(lp,.obj (.loop (Loop.at r .done (some .ret))))::(D,.obj (.deferred (some [])))::(b3,.cells 4 1 [.bool true])::(b2,.cells 30 1 [(Value.int .u64) z])::H) hq hrow ?_ ⟨rfl,rfl⟩).hsub zH).mono ?_
 ·intro i z Hi hz hJ
  obtain ⟨rfl,rfl⟩:=hJ
  refine round_intro hst hpd hA hps rfl hasg rfl rfl rfl zT ?_
  refine W_region (W_assign rfl rfl (W_nil (W_begin hst hpd zT hbody ?_)))
  refine W_block (W_sr (W_move rfl rfl (W_store (l':=[(Value.int .u64) z]) rfl rfl ty30 rfl rfl (b:=b2) zM rfl rfl zU ?_)))
  refine W_store (l':=[.bool true]) rfl rfl ty4 rfl rfl (b:=b3) zM rfl rfl zU ?_
  refine W_nil (W_retround zT ?_)
  exact ⟨(lp,.obj (.loop (Loop.at r .done (some .ret))))::(D,.obj (.deferred (some [])))::(b3,.cells 4 1 [.bool true])::(b2,.cells 30 1 [(Value.int .u64) z])::H,zH,.inr ⟨rfl,z,hz,rfl⟩⟩
  skip
 ·intro _ H' hp
  obtain ⟨Hi',hs,hJS⟩:=hp
  rcases hJS with ⟨hq0,rfl⟩ | ⟨z,hz,rfl⟩
  case inr =>
   refine ⟨.done,some .ret,(bl,.cells 84 1 [.slice ad q.length cap])::(HB++((D,.obj (.deferred (some [])))::(b3,.cells 4 1 [.bool true])::(b2,.cells 30 1 [(Value.int .u64) z])::H)),hs.trans zH,by decide,?_⟩
   show W _ _ _ _ _ _ _ _ _
   refine W_ret2G (H2:=(bl,.cells 84 1 [.slice ad q.length cap])::(HB++H)) Tryz.results238 (.cons zT (.nil _)) (.one rfl ty30 rfl (Cell.own (b:=b2) zM rfl)) (.one rfl ty4 rfl (Cell.own (b:=b3) zM rfl)) zH ?_
   exact ⟨by unfold firstU; rw [hz],rfl⟩
  refine ⟨.ready,none,(bl,.cells 84 1 [.slice ad q.length cap])::(HB++((D,.obj (.deferred (some [])))::(b3,.cells 4 1 [.bool false])::(b2,.cells 30 1 [(.int .u64 0)])::H)),by rw [hr]; exact hs.trans zH,by decide,?_⟩
  show W _ _ _ _ _ _ _ _ _
  refine W_blk (W_sr (W_assign rfl rfl (W_nil (W_sr (W_move rfl rfl (W_store (l':=[(.int .u64 0)]) rfl rfl ty30 rfl rfl (b:=b2) zM rfl rfl zU ?_))))))
  refine W_store (l':=[.bool false]) rfl rfl ty4 rfl rfl (b:=b3) zM rfl rfl zU ?_
  refine W_nil (W_ret2G (H2:=(bl,.cells 84 1 [.slice ad q.length cap])::(HB++H)) Tryz.results238 (.cons zT (.nil _)) (.one rfl ty30 rfl (Cell.own (b:=b2) zM rfl)) (.one rfl ty4 rfl (Cell.own (b:=b3) zM rfl)) zH ?_)
  have hn:q=[]:=List.eq_nil_of_length_eq_zero hq0
  subst hn
  exact ⟨rfl,rfl⟩
def fstU (q:List Int):Value:=match q[0]? with
 | some z=>(Value.int .u64) z
 | none=>(.int .u64 0)
theorem firstU_eq (q:List Int):firstU q=.tuple #[fstU q,.bool (!q.isEmpty)]:=by
 unfold firstU fstU
 cases q <;> rfl
theorem OldestU_L {w0:World} {H:Heap} {room last c bo bm:Nat} {m:List Int} {l:Ents Int} {τ:Int→Nat} (hO:OrdIs room m last l c τ) (h64:room≤64) :LCalls Tryz.prog w0 147 #[.pointer (some ⟨bo,0,none⟩)] ((bo,.cells 372 3 [.int .i64 (room:Int),.int .i64 ((last:Nat):Int),.map (some bm)])::(bm,.obj (mapO (Value.int .u64) l c))::H) (fun v H'=>v=.tuple #[fstU (m),.bool (!(m).isEmpty)]∧H'=(bo,.cells 372 3 [.int .i64 (room:Int),.int .i64 ((last:Nat):Int),.map (some bm)])::(bm,.obj (mapO (Value.int .u64) l c))::H):=by
 have hml:m.length≤64:=Nat.le_trans hO.le h64
 refine L_enter (l:=[.pointer (some ⟨bo,0,none⟩)]) Tryz.func147 rfl Tryz.ntmps147 rfl rfl ?_
 refine W_sr (W_assign rfl rfl (W_assign rfl rfl (W_nil (W_sr (W_move rfl rfl (W_call (.cons rfl (.cons rfl .nil)) Tryz.call224 rfl ((sortedU_L (H:=H) hO false h64).hsub zH) ?_))))))
 rintro v H' ⟨bl,sv,HB,rfl,hS,rfl⟩
 simp only [Bool.false_eq_true,if_false] at hS
 obtain ⟨ad,cap,rfl,_,_,hrw⟩:=Holds.of_own (w0:=w0) (H:=HB++[]) hS (fun p hp=>List.mem_append_left _ hp)
 refine W_call (.cons rfl .nil) Tryz.call238 rfl (firstU_L (H:=(bo,.cells 372 3 [.int .i64 (room:Int),.int .i64 ((last:Nat):Int),.map (some bm)])::(bm,.obj (mapO (Value.int .u64) l c))::H) (HB:=HB) (bl:=bl) (ad:=ad) (q:=m) (by (try rw [List.length_reverse]); omega) (hrw.up (.drop (.refl _)))) ?_
 rintro v H' ⟨rfl,rfl⟩
 rw [firstU_eq]
 refine W_extract rfl rfl rfl (W_extract rfl rfl rfl (W_assign rfl rfl (W_assign rfl rfl (W_nil (W_ret2m (H2:=(bo,.cells 372 3 [.int .i64 (room:Int),.int .i64 ((last:Nat):Int),.map (some bm)])::(bm,.obj (mapO (Value.int .u64) l c))::H) Tryz.results147 rfl rfl (.nil _) zH ?_)))))
 exact ⟨rfl,rfl⟩
inductive AreH (ab:Nat) (L:List Slt):Heap→Prop
 | mk {sb u f:Nat} (hu:TellsA 1 L u) (hf:TellsA 0 L f) (hk:AreOk L):AreH ab L [(ab,.cells 345 3 [.slice (some ⟨sb,0,none⟩) L.length L.length,.int .u64 ((u:Nat):Int),.int .u64 ((f:Nat):Int)]),(sb,.cells 377 (L.length*7) ((L).flatMap sltC))]
inductive TabH (tb room:Nat) (C:List (Int × Hd)):Heap→Prop
 | mk {cb:Nat} {vs:List Value} {Hs:List Heap} (hT:TabIs C vs Hs):TabH tb room C ((tb,.cells 348 3 [.slice (some ⟨cb,0,none⟩) 8 8,.int .i64 (room:Int),.int .i64 ((C.length:Nat):Int)])::(cb,.cells 482 8 vs)::Hs.flatten)
theorem TabH.nd {tb room:Nat} {C:List (Int × Hd)} {HT:Heap} (h:TabH tb room C HT):(keyL C).Nodup∧C.length≤64:=by
 cases h with
 | mk hT=>exact ⟨hT.nd,hT.len⟩
inductive OrdH (bo room T:Nat) (m:List Int):Heap→Prop
 | mk {bm last c:Nat} {l:Ents Int} {τ:Int→Nat} (hO:OrdIs room m last l c τ) (hl:last≤T):OrdH bo room T m [(bo,.cells 372 3 [.int .i64 (room:Int),.int .i64 ((last:Nat):Int),.map (some bm)]),(bm,.obj (mapO (Value.int .u64) l c))]
theorem OrdH.up {bo room T T':Nat} {m:List Int} {HO:Heap} (h:OrdH bo room T m HO) (hl:T≤T'):OrdH bo room T' m HO:=by
 cases h with
 | mk hO h1=>exact .mk hO (Nat.le_trans h1 hl)
section
variable {w0:World} {H HA HT HO:Heap} {ab tb bo room T:Nat} {L:List Slt} {C:List (Int × Hd)} {m:List Int}
theorem AreH.put (hA:AreH ab L HA) (hTab:Tab w0) {i:Nat} {s:Slt} {c:Cel} (hfi:firstF L=some i) (hs:L[i]?=some s) :
  LCalls Tryz.prog w0 241 #[.pointer (some ⟨ab,0,none⟩),.agg (List.toArray (celC c))] (HA++H) (fun v H'=>∃ HA',AreH ab (L.set i { s with st:=1,cel:=c }) HA'∧v=.tuple #[.agg (List.toArray (hdC s.own)),.int .i64 0]∧H'=HA'++H):=by
 cases hA with
 | mk hu hf hk =>
  refine (Put_LX (ab:=ab) (H:=H) hu hf hk hfi hs (c:=c) hTab).mono ?_
  rintro v H' ⟨u',f',rfl,hu',hf',rfl⟩
  exact ⟨_,.mk hu' hf' (hk.set (hk.own i s hs)),rfl,by rw [List.length_set]; rfl⟩
theorem AreH.get (hA:AreH ab L HA) (hm:∀ p∈HA,p∈H) {h:Hd}:PureAt Tryz.prog w0 H 245 [.pointer (some ⟨ab,0,none⟩),.agg (List.toArray (hdC h))] (.tuple #[.agg (List.toArray (celC (celA L h))),.int .i64 (errA L h)]):=by
 cases hA with
 | mk hu hf hk=>exact Get_q hu hk (hm _ List.mem_cons_self) (hm _ (List.mem_cons_of_mem _ List.mem_cons_self))
theorem AreH.lenq (hA:AreH ab L HA) (hm:∀ p∈HA,p∈H):PureAt Tryz.prog w0 H 125 [.pointer (some ⟨ab,0,none⟩)] (.int .i64 ((cntA 1 L:Nat):Int)):=by
 cases hA with
 | mk hu hf hk=>exact LenA_q hu hk (hm _ List.mem_cons_self)
theorem AreH.roomq (hA:AreH ab L HA) (hm:∀ p∈HA,p∈H):PureAt Tryz.prog w0 H 237 [.pointer (some ⟨ab,0,none⟩)] (.int .i64 ((cntA 0 L:Nat):Int)):=by
 cases hA with
 | mk hu hf hk=>exact RoomA_q hf hk (hm _ List.mem_cons_self)
theorem setAX_cel (L:List Slt) (h:Hd) (c:Cel):(AreOk L→AreOk (setAX L h (fun s=>{ s with cel:=c })))∧∀ n m,TellsA n L m→TellsA n (setAX L h (fun s=>{ s with cel:=c })) m:=by
 by_cases he:errA L h=0
 ·obtain ⟨i,s,hi,hs,hu,ho,hc,hset⟩:=errA_ok he
  rw [hset]
  exact ⟨fun hk=>hk.set (hk.own i s hs),fun n m h=>h.same hs Iff.rfl⟩
 ·rw [(errA_no he).2]
  exact ⟨id,fun _ _ h=>h⟩
theorem AreH.set (hA:AreH ab L HA) {h:Hd} {c:Cel}:LCalls Tryz.prog w0 144 #[.pointer (some ⟨ab,0,none⟩),.agg (List.toArray (hdC h)),.agg (List.toArray (celC c))] (HA++H) (fun v H'=>∃ HA',AreH ab (setAX L h (fun s=>{ s with cel:=c })) HA'∧v=.int .i64 (errA L h)∧H'=HA'++H):=by
 cases hA with
 | mk hu hf hk =>
  refine (Set_LX (ab:=ab) (H:=H) hu hk (h:=h) (c:=c)).mono ?_
  rintro v H' ⟨rfl,rfl⟩
  exact ⟨_,.mk ((setAX_cel L h c).2 _ _ hu) ((setAX_cel L h c).2 _ _ hf) ((setAX_cel L h c).1 hk),rfl,by rw [setAX_len]; rfl⟩
theorem setAX_rel {L:List Slt} {h:Hd} (hk:AreOk L):AreOk (setAX L h relS):=by
 by_cases he:errA L h=0
 ·obtain ⟨i,s,hi,hs,hu,ho,hc,hset⟩:=errA_ok he
  rw [hset]; exact hk.rel hs
 ·rw [(errA_no he).2]; exact hk
theorem AreH.free (hA:AreH ab L HA) {h:Hd} {ad:Option Addr} {cap:Nat} (hrow:Holds w0 H ad (hdC h)):LCalls Tryz.prog w0 255 #[.pointer (some ⟨ab,0,none⟩),.slice ad 1 cap] (HA++H) (fun v H'=>∃ HA',AreH ab (setAX L h relS) HA'∧v=.int .i64 (errA L h)∧H'=HA'++H):=by
 cases hA with
 | mk hu hf hk =>
  refine (Free_L (ab:=ab) (H:=H) hu hf hk (h:=h) (cap:=cap) hrow).mono ?_
  rintro v H' ⟨u',f',rfl,hu',hf',rfl⟩
  exact ⟨_,.mk hu' hf' (setAX_rel hk),rfl,by rw [setAX_len]; rfl⟩
theorem AreH.new {n:Nat} (h1:1≤n) (h2:n≤64):LCalls Tryz.prog w0 170 #[.int .i64 (n:Int)] H (fun v H'=>∃ ab HA,AreH ab (newL n n) HA∧v=.tuple #[.pointer (some ⟨ab,0,none⟩),.int .i64 0]∧H'=HA++H):=by
 refine (NewA_L (w0:=w0) (H:=H) h1 h2).mono ?_
 rintro v H' ⟨ab,sb,rfl,rfl⟩
 refine ⟨ab,_,.mk (sb:=sb) newL_used (newL_free h1 h2) (newL_ok h1 h2),rfl,?_⟩
 rw [newL_len]; rfl
theorem TabH.get (hT:TabH tb room C HT) (hm:∀ p∈HT,p∈H) {k:Int}:PureAt Tryz.prog w0 H 234 [.pointer (some ⟨tb,0,none⟩),.int .u64 k] (getV (fndC C k)):=by
 cases hT with
 | mk hT=>exact GetT_q hT hm
theorem TabH.lenq (hT:TabH tb room C HT) (hm:∀ p∈HT,p∈H):PureAt Tryz.prog w0 H 126 [.pointer (some ⟨tb,0,none⟩)] (.int .i64 (C.length:Int)):=by
 cases hT with
 | mk hT=>exact LenT_q (hm _ List.mem_cons_self)
theorem TabH.put (hT:TabH tb room C HT) {k:Int} {h:Hd} (hk:k ∉ keyL C) (hr:C.length<room) (hr64:room≤64):LCalls Tryz.prog w0 242 #[.pointer (some ⟨tb,0,none⟩),.int .u64 k,.agg (List.toArray (hdC h))] (HT++H) (fun v H'=>∃ HT',TabH tb room ((k,h)::C) HT'∧v=.tuple #[.bool false,.int .i64 0]∧H'=HT'++H):=by
 cases hT with
 | mk hT =>
  refine (PutT_L (tb:=tb) (room:=room) (H:=H) hT (h:=h) hk hr hr64).mono ?_
  rintro v H' ⟨vs',Hs',rfl,hT',rfl⟩
  exact ⟨_,.mk hT',rfl,rfl⟩
theorem TabH.del (hT:TabH tb room C HT) {k:Int} {ad:Option Addr} {kc:Nat} (hrow:Holds w0 H ad [.int .u64 k]):LCalls Tryz.prog w0 239 #[.pointer (some ⟨tb,0,none⟩),.slice ad 1 kc] (HT++H) (fun v H'=>∃ HT',TabH tb room (delC C k) HT'∧v=.int .i64 (cntIn C k:Int)∧H'=HT'++H):=by
 cases hT with
 | mk hT =>
  refine (DelT_L (tb:=tb) (room:=room) (H:=H) hT (k:=k) (kc:=kc) hrow).mono ?_
  rintro v H' ⟨vs',Hs',rfl,hT',rfl⟩
  exact ⟨_,.mk hT',rfl,rfl⟩
theorem TabH.new {room:Nat} (h1:1≤room) (h2:room≤64):LCalls Tryz.prog w0 171 #[.int .i64 8,.int .i64 (room:Int)] H (fun v H'=>∃ tb HT,TabH tb room [] HT∧v=.tuple #[.pointer (some ⟨tb,0,none⟩),.int .i64 0]∧H'=HT++H):=by
 refine (NewT_L (w0:=w0) (H:=H) h1 h2).mono ?_
 rintro v H' ⟨tb,cb,rfl,rfl⟩
 exact ⟨tb,_,.mk TabIs.nil,rfl,rfl⟩
theorem touch_ok {m:List Int} {room:Nat} {k:Int} (h:k∈m∨m.length<room):touchL m room [k]=(drop1O m k++[k],0):=by
 have e:touch1 m room k=(drop1O m k++[k],0):=if_neg (fun h2=>by rcases h with h | h; exact h2.1 h; omega)
 show (if (touch1 m room k).2=0 then touchL (touch1 m room k).1 room [] else (m,3))=_
 rw [e]; rfl
theorem OrdH.touch (hO:OrdH bo room T m HO) (hT:T≤1000000) {k:Int} {ad:Option Addr} {cap:Nat} (hk:k∈m∨m.length<room) (hrow:Holds w0 H ad [.int .u64 k]):LCalls Tryz.prog w0 143 #[.pointer (some ⟨bo,0,none⟩),.slice ad 1 cap] (HO++H) (fun v H'=>∃ HO',OrdH bo room (T+1) (drop1O m k++[k]) HO'∧v=.int .i64 0∧H'=HO'++H):=by
 cases hO with
 | mk hO hl =>
  refine (touchU_L (bo:=bo) (H:=H) hO (ks:=[k]) (cap:=cap) (by show _+1≤_; omega) hrow).mono ?_
  rintro v H' ⟨last',l',c',τ',rfl,hO',hl',rfl⟩
  rw [touch_ok hk] at hO' ⊢
  exact ⟨_,.mk hO' (by have:last'≤_+1:=hl'; omega),rfl,rfl⟩
theorem OrdH.drop (hO:OrdH bo room T m HO) {k:Int}:LCalls Tryz.prog w0 240 #[.pointer (some ⟨bo,0,none⟩),.int .u64 k] (HO++H) (fun v H'=>∃ HO',OrdH bo room T (drop1O m k) HO'∧v=.bool (inO m k)∧H'=HO'++H):=by
 cases hO with
 | mk hO hl =>
  refine (dropU_L (bo:=bo) (H:=H) hO k).mono ?_
  rintro v H' ⟨l',rfl,hO',rfl⟩
  exact ⟨_,.mk hO' hl,rfl,rfl⟩
theorem OrdH.oldest (hO:OrdH bo room T m HO) (h64:room≤64):LCalls Tryz.prog w0 147 #[.pointer (some ⟨bo,0,none⟩)] (HO++H) (fun v H'=>v=.tuple #[fstU m,.bool (!m.isEmpty)]∧H'=HO++H):=by
 cases hO with
 | mk hO hl=>exact OldestU_L (bo:=bo) (H:=H) hO h64
theorem OrdH.new {room:Nat} (hz:1≤room∧room≤64):LCalls Tryz.prog w0 172 #[.int .i64 (room:Int)] H (fun v H'=>∃ bo HO,OrdH bo room (0) [] HO∧v=.tuple #[.pointer (some ⟨bo,0,none⟩),.int .i64 0]∧H'=HO++H):=by
 refine (newU_L (w0:=w0) (H:=H) hz).mono ?_
 rintro v H' ⟨bo,bm,rfl,rfl⟩
 exact ⟨bo,_,.mk (OrdIs.nil room 0 (fun _=>0)) (Nat.le_refl _),rfl,rfl⟩
end
theorem link_at {w0:World} {H:Heap} {mb ab tb bo T kind entries words:Nat} {closed:Bool} {L:List Slt} {C:List (Int × Hd)} {used:List Int} {HA HT HO:Heap} (hA:AreH ab L HA) (hB:TabH tb entries C HT) (hO:OrdH bo entries T used HO) (hTl:T≤1000000) (he:entries≤64) {i:Nat} {s:Slt} {c:Cel} (hfi:firstF L=some i) (hs:L[i]?=some s) (hk:c.key ∉ keyL C) (hr:C.length<entries) (hru:used.length<entries) (hTab:Tab w0):LCalls Tryz.prog w0 149 #[.pointer (some ⟨mb,0,none⟩),.agg (List.toArray (celC c))] ((mb,.cells 217 7 [.int .i64 (kind:Int),.int .i64 (entries:Int),.int .i64 (words:Int),.pointer (some ⟨ab,0,none⟩),.pointer (some ⟨tb,0,none⟩),.pointer (some ⟨bo,0,none⟩),.bool closed])::(HA++(HT++(HO++H)))) (fun v H'=>∃ HA' HT' HO',AreH ab (L.set i { s with st:=1,cel:=c }) HA'∧TabH tb entries ((c.key,s.own)::C) HT'∧OrdH bo entries (T+1) (drop1O used c.key++[c.key]) HO'∧v=.tuple #[.agg (List.toArray (hdC s.own)),.int .i64 0]∧H'=(mb,.cells 217 7 [.int .i64 (kind:Int),.int .i64 (entries:Int),.int .i64 (words:Int),.pointer (some ⟨ab,0,none⟩),.pointer (some ⟨tb,0,none⟩),.pointer (some ⟨bo,0,none⟩),.bool closed])::(HA'++(HT'++(HO'++H)))):=by
 refine L_enter (l:=[.pointer (some ⟨mb,0,none⟩),.agg (List.toArray (celC c))]) Tryz.func149 rfl Tryz.ntmps149 rfl rfl ?_
 refine W_sr ?_
 refine W_box rfl rfl rfl (fun b3=>?_)
 refine W_alloc (l:=hdC zHd) ty40 rfl rfl (fun b4=>?_)
 refine W_assign rfl rfl (W_nil (W_seq ?_))
 refine W_cutX (X:=(Heap × Nat)) (fun x=>[(0,.pointer (some ⟨mb,0,none⟩)),(3,.pointer (some ⟨b3,0,none⟩)),(4,.pointer (some ⟨b4,0,none⟩)),(6,.pointer (some ⟨x.2,0,none⟩)),(7,.int .i64 0)]) (fun x=>(x.2,.cells 40 2 (hdC s.own))::(b4,.cells 40 2 (hdC zHd))::(b3,.cells 220 5 (celC c))::(mb,.cells 217 7 [.int .i64 (kind:Int),.int .i64 (entries:Int),.int .i64 (words:Int),.pointer (some ⟨ab,0,none⟩),.pointer (some ⟨tb,0,none⟩),.pointer (some ⟨bo,0,none⟩),.bool closed])::(x.1++(HT++(HO++H)))) (fun x=>AreH ab (L.set i { s with st:=1,cel:=c }) x.1) ?_ ?_
 ·skip
  refine W_anyC [(mb,.cells 217 7 [.int .i64 (kind:Int),.int .i64 (entries:Int),.int .i64 (words:Int),.pointer (some ⟨ab,0,none⟩),.pointer (some ⟨tb,0,none⟩),.pointer (some ⟨bo,0,none⟩),.bool closed]),(b3,.cells 220 5 (celC c))] zk ?_
  refine WC_take 0 rfl zK zK zK rfl rfl (X_move rfl) rfl ?_
  refine WC_take 1 rfl zK zK zK rfl rfl (X_nilCheck rfl) rfl ?_
  refine WC_take 2 rfl zK zK zK rfl rfl (X_fieldAddr rfl fld217_3 zd) rfl ?_
  refine WC_take 3 rfl zK zK zK rfl rfl (X_load (v:=.pointer (some ⟨ab,0,none⟩)) rfl ty213 rfl (Cell.own (b:=mb) zM rfl)) rfl ?_
  refine WC_take 4 rfl zK zK zK rfl rfl (X_loadB (vs:=celC (c)) rfl ty220 rfl (b:=b3) zM rfl rfl) rfl ?_
  refine WC_two 5 9 (l':=#[true,true,true,true,true,true,false,false,false,false,false,false]) (l'':=#[true,true,true,true,true,false,false,false,false,true,false,false]) zH zK rfl rfl zK zK ?_ ?_
  ·skip
   refine W_call (.cons rfl (.cons rfl .nil)) Tryz.call241 rfl ((hA.put hTab hfi hs (c:=c) (H:=(mb,.cells 217 7 [.int .i64 (kind:Int),.int .i64 (entries:Int),.int .i64 (words:Int),.pointer (some ⟨ab,0,none⟩),.pointer (some ⟨tb,0,none⟩),.pointer (some ⟨bo,0,none⟩),.bool closed])::(HT++(HO++((b4,.cells 40 2 (hdC zHd))::(b3,.cells 220 5 (celC c))::H))))).hsub zH) ?_
   rintro v H' ⟨HA2,hA2,rfl,rfl⟩
   refine W_nil ?_
   refine WC_goal ?_
   refine WC_take 6 rfl zK zK zK rfl rfl (X_move rfl) rfl ?_
   refine WC_take 7 rfl zK zK zK rfl rfl (X_extract rfl rfl) rfl ?_
   refine WC_take 8 rfl zK zK zK rfl rfl (X_extract rfl rfl) rfl ?_
   refine WC_one 9 zH zK rfl rfl ?_
   refine W_alloc (l:=hdC zHd) ty40 rfl rfl (fun b6=>?_)
   refine W_nil ?_
   refine WC_goal ?_
   refine WC_one 10 zH zK rfl rfl ?_
   refine W_storeA (l':=hdC s.own) rfl rfl ty40 rfl rfl (b:=b6) zM (by exact Nat.le_refl 2) rfl zU ?_
   refine W_nil ?_
   refine WC_goal ?_
   refine WC_take 11 rfl zK zK zK rfl rfl (X_assign rfl) rfl ?_
   refine WC_done zH zK ?_
   refine W_joinX (HA2,b6) hA2 (sub_cons rfl (sub_cons rfl (sub_cons rfl (sub_cons rfl (sub_cons rfl (sub_nil _)))))) zH
  ·skip
   refine W_alloc (l:=hdC zHd) ty40 rfl rfl (fun b6=>?_)
   refine W_nil ?_
   refine WC_goal ?_
   refine WC_one 5 zH zK rfl rfl ?_
   refine W_call (.cons rfl (.cons rfl .nil)) Tryz.call241 rfl ((hA.put hTab hfi hs (c:=c) (H:=(b6,.cells 40 2 (hdC zHd))::(mb,.cells 217 7 [.int .i64 (kind:Int),.int .i64 (entries:Int),.int .i64 (words:Int),.pointer (some ⟨ab,0,none⟩),.pointer (some ⟨tb,0,none⟩),.pointer (some ⟨bo,0,none⟩),.bool closed])::(HT++(HO++((b4,.cells 40 2 (hdC zHd))::(b3,.cells 220 5 (celC c))::H))))).hsub zH) ?_
   rintro v H' ⟨HA2,hA2,rfl,rfl⟩
   refine W_nil ?_
   refine WC_goal ?_
   refine WC_take 6 rfl zK zK zK rfl rfl (X_move rfl) rfl ?_
   refine WC_take 7 rfl zK zK zK rfl rfl (X_extract rfl rfl) rfl ?_
   refine WC_take 8 rfl zK zK zK rfl rfl (X_extract rfl rfl) rfl ?_
   refine WC_one 10 zH zK rfl rfl ?_
   refine W_storeA (l':=hdC s.own) rfl rfl ty40 rfl rfl (b:=b6) zM (by exact Nat.le_refl 2) rfl zU ?_
   refine W_nil ?_
   refine WC_goal ?_
   refine WC_take 11 rfl zK zK zK rfl rfl (X_assign rfl) rfl ?_
   refine WC_done zH zK ?_
   refine W_joinX (HA2,b6) hA2 (sub_cons rfl (sub_cons rfl (sub_cons rfl (sub_cons rfl (sub_cons rfl (sub_nil _)))))) zH
 rintro ⟨HA2,b6⟩ hA2
 dsimp only at hA2 ⊢
 refine W_seq (W_sr (W_move rfl rfl (W_bin rfl rfl b_neq rfl ?_)))
 refine W_nil (W_condF rfl rfl (W_skip (W_seq ?_)))
 refine W_anyC [(mb,.cells 217 7 [.int .i64 (kind:Int),.int .i64 (entries:Int),.int .i64 (words:Int),.pointer (some ⟨ab,0,none⟩),.pointer (some ⟨tb,0,none⟩),.pointer (some ⟨bo,0,none⟩),.bool closed]),(b3,.cells 220 5 (celC c)),(b6,.cells 40 2 (hdC s.own))] zk ?_
 refine WC_take 0 rfl zK zK zK rfl rfl (X_move rfl) rfl ?_
 refine WC_take 1 rfl zK zK zK rfl rfl (X_nilCheck rfl) rfl ?_
 refine WC_take 2 rfl zK zK zK rfl rfl (X_fieldAddr rfl fld217_4 zd) rfl ?_
 refine WC_take 3 rfl zK zK zK rfl rfl (X_load (v:=.pointer (some ⟨tb,0,none⟩)) rfl ty214 rfl (Cell.own (b:=mb) zM rfl)) rfl ?_
 refine WC_take 4 rfl zK zK zK rfl rfl (X_fieldAddr rfl fld220_0 zd) rfl ?_
 refine WC_take 5 rfl zK zK zK rfl rfl (X_load (v:=.int .u64 c.key) rfl ty30 rfl (Cell.own (b:=b3) zM rfl)) rfl ?_
 refine WC_take 6 rfl zK zK zK rfl rfl (X_loadB (vs:=hdC s.own) rfl ty40 rfl (b:=b6) zM rfl rfl) rfl ?_
 refine WC_one 7 zH zK rfl rfl ?_
 refine W_call (.cons rfl (.cons rfl (.cons rfl .nil))) Tryz.call242 rfl ((hB.put (h:=s.own) hk hr he (H:=(b6,.cells 40 2 (hdC s.own))::(b4,.cells 40 2 (hdC zHd))::(b3,.cells 220 5 (celC c))::(mb,.cells 217 7 [.int .i64 (kind:Int),.int .i64 (entries:Int),.int .i64 (words:Int),.pointer (some ⟨ab,0,none⟩),.pointer (some ⟨tb,0,none⟩),.pointer (some ⟨bo,0,none⟩),.bool closed])::(HA2++(HO++H)))).hsub zH) ?_
 rintro v H' ⟨HT2,hB2,rfl,rfl⟩
 refine W_nil ?_
 refine WC_goal ?_
 refine WC_done zH zK ?_
 refine W_seq ?_
 refine W_anyC [(mb,.cells 217 7 [.int .i64 (kind:Int),.int .i64 (entries:Int),.int .i64 (words:Int),.pointer (some ⟨ab,0,none⟩),.pointer (some ⟨tb,0,none⟩),.pointer (some ⟨bo,0,none⟩),.bool closed]),(b3,.cells 220 5 (celC c))] zk ?_
 refine WC_take 0 rfl zK zK zK rfl rfl (X_move rfl) rfl ?_
 refine WC_take 1 rfl zK zK zK rfl rfl (X_nilCheck rfl) rfl ?_
 refine WC_take 2 rfl zK zK zK rfl rfl (X_fieldAddr rfl fld217_5 zd) rfl ?_
 refine WC_take 3 rfl zK zK zK rfl rfl (X_load (v:=.pointer (some ⟨bo,0,none⟩)) rfl ty215 rfl (Cell.own (b:=mb) zM rfl)) rfl ?_
 refine WC_take 4 rfl zK zK zK rfl rfl (X_fieldAddr rfl fld220_0 zd) rfl ?_
 refine WC_take 5 rfl zK zK zK rfl rfl (X_load (v:=.int .u64 c.key) rfl ty30 rfl (Cell.own (b:=b3) zM rfl)) rfl ?_
 refine WC_one 6 zH zK rfl rfl ?_
 refine W_buildSlice (l:=[.int .u64 c.key]) ty84 ty30 (.cons rfl rfl rfl rfl rfl .nil) rfl rfl rfl rfl rfl rfl rfl (fun b34=>?_)
 refine W_nil ?_
 refine WC_goal ?_
 refine WC_one 7 zH zK rfl rfl ?_
 refine W_call (.cons rfl (.cons rfl .nil)) Tryz.call143 rfl ((hO.touch hTl (k:=c.key) (cap:=1) (.inr hru) (Holds.own (b:=b34) zM) (H:=(b34,.cells 30 (1*1) [.int .u64 c.key])::(b6,.cells 40 2 (hdC s.own))::(b4,.cells 40 2 (hdC zHd))::(b3,.cells 220 5 (celC c))::(mb,.cells 217 7 [.int .i64 (kind:Int),.int .i64 (entries:Int),.int .i64 (words:Int),.pointer (some ⟨ab,0,none⟩),.pointer (some ⟨tb,0,none⟩),.pointer (some ⟨bo,0,none⟩),.bool closed])::(HA2++(HT2++H)))).hsub zH) ?_
 rintro v H' ⟨HO2,hO2,rfl,rfl⟩
 refine W_nil ?_
 refine WC_goal ?_
 refine WC_done zH zK ?_
 refine W_sr (W_loadB (vs:=hdC s.own) rfl ty40 rfl (b:=b6) zM rfl rfl rfl ?_)
 refine W_storeA (l':=hdC s.own) rfl rfl ty40 rfl rfl (b:=b4) zM (by exact Nat.le_refl 2) rfl zU ?_
 refine W_assign rfl rfl (W_nil (W_ret2G (H2:=(mb,.cells 217 7 [.int .i64 (kind:Int),.int .i64 (entries:Int),.int .i64 (words:Int),.pointer (some ⟨ab,0,none⟩),.pointer (some ⟨tb,0,none⟩),.pointer (some ⟨bo,0,none⟩),.bool closed])::(HA2++(HT2++(HO2++H)))) Tryz.results149 (.nil _) (.own (vs:=hdC s.own) rfl ty40 rfl (b:=b4) zM rfl) (.tmp rfl) zH ?_))
 exact ⟨HA2,HT2,HO2,hA2,hB2,hO2,rfl,rfl⟩
theorem unlink_at {w0:World} {H:Heap} {mb ab tb bo T kind entries words:Nat} {closed:Bool} {C:List (Int × Hd)} {used:List Int} {HA HT HO:Heap} (hB:TabH tb entries C HT) (hO:OrdH bo entries T used HO) {k:Int} :LCalls Tryz.prog w0 148 #[.pointer (some ⟨mb,0,none⟩),.int .u64 k] ((mb,.cells 217 7 [.int .i64 (kind:Int),.int .i64 (entries:Int),.int .i64 (words:Int),.pointer (some ⟨ab,0,none⟩),.pointer (some ⟨tb,0,none⟩),.pointer (some ⟨bo,0,none⟩),.bool closed])::(HA++(HT++(HO++H)))) (fun v H'=>∃ HT' HO',TabH tb entries (delC C k) HT'∧OrdH bo entries T (drop1O used k) HO'∧v=.agg (List.toArray (hdC ((fndC C k).getD zHd)))∧H'=(mb,.cells 217 7 [.int .i64 (kind:Int),.int .i64 (entries:Int),.int .i64 (words:Int),.pointer (some ⟨ab,0,none⟩),.pointer (some ⟨tb,0,none⟩),.pointer (some ⟨bo,0,none⟩),.bool closed])::(HA++(HT'++(HO'++H)))):=by
 refine L_enter (l:=[.pointer (some ⟨mb,0,none⟩),.int .u64 k]) Tryz.func148 rfl Tryz.ntmps148 rfl rfl ?_
 refine W_sr ?_
 refine W_alloc (l:=hdC zHd) ty40 rfl rfl (fun b4=>?_)
 refine W_nil (W_sr (W_move rfl rfl (W_nilCheck rfl rfl (W_fieldAddr rfl fld217_4 zd rfl ?_))))
 refine W_load (v:=.pointer (some ⟨tb,0,none⟩)) rfl ty214 rfl (Cell.own (b:=mb) zM rfl) rfl ?_
 refine W_move rfl rfl ?_
 refine W_callq (.cons rfl (.cons rfl .nil)) Tryz.call234 rfl (hB.get (k:=k) (fun p hp=>by repeat (first | exact List.mem_append_left _ hp | apply List.mem_cons_of_mem | apply List.mem_append_right))) ?_
 obtain ⟨g,hg⟩:∃ g,g=(fndC C k).getD zHd:=⟨_,rfl⟩
 unfold getV
 rw [← hg]
 refine W_move rfl rfl (W_extract rfl rfl rfl (W_extract rfl rfl rfl ?_))
 refine W_alloc (l:=hdC zHd) ty40 rfl rfl (fun b5=>?_)
 refine W_storeA (l':=hdC g) rfl rfl ty40 rfl rfl (b:=b5) zM (by exact Nat.le_refl 2) rfl zU ?_
 refine W_assign rfl rfl (W_nil (W_sr (W_move rfl rfl (W_nilCheck rfl rfl (W_fieldAddr rfl fld217_4 zd rfl ?_)))))
 refine W_load (v:=.pointer (some ⟨tb,0,none⟩)) rfl ty214 rfl (Cell.own (b:=mb) zM rfl) rfl ?_
 refine W_move rfl rfl ?_
 refine W_buildSlice (l:=[.int .u64 k]) ty84 ty30 (.cons rfl rfl rfl rfl rfl .nil) rfl rfl rfl rfl rfl rfl rfl (fun b21=>?_)
 refine W_call (.cons rfl (.cons rfl .nil)) Tryz.call239 rfl ((hB.del (k:=k) (kc:=1) (Holds.own (b:=b21) zM) (H:=(b21,.cells 30 (1*1) [.int .u64 k])::(b5,.cells 40 2 (hdC g))::(b4,.cells 40 2 (hdC zHd))::(mb,.cells 217 7 [.int .i64 (kind:Int),.int .i64 (entries:Int),.int .i64 (words:Int),.pointer (some ⟨ab,0,none⟩),.pointer (some ⟨tb,0,none⟩),.pointer (some ⟨bo,0,none⟩),.bool closed])::(HA++(HO++H)))).hsub zH) ?_
 rintro v H' ⟨HT2,hB2,rfl,rfl⟩
 refine W_nil (W_sr (W_move rfl rfl (W_nilCheck rfl rfl (W_fieldAddr rfl fld217_5 zd rfl ?_))))
 refine W_load (v:=.pointer (some ⟨bo,0,none⟩)) rfl ty215 rfl (Cell.own (b:=mb) zM rfl) rfl ?_
 refine W_move rfl rfl (W_call (.cons rfl (.cons rfl .nil)) Tryz.call240 rfl ((hO.drop (k:=k) (H:=(b21,.cells 30 (1*1) [.int .u64 k])::(b5,.cells 40 2 (hdC g))::(b4,.cells 40 2 (hdC zHd))::(mb,.cells 217 7 [.int .i64 (kind:Int),.int .i64 (entries:Int),.int .i64 (words:Int),.pointer (some ⟨ab,0,none⟩),.pointer (some ⟨tb,0,none⟩),.pointer (some ⟨bo,0,none⟩),.bool closed])::(HA++(HT2++H)))).hsub zH) ?_)
 rintro v H' ⟨HO2,hO2,rfl,rfl⟩
 refine W_nil (W_sr (W_loadB (vs:=hdC g) rfl ty40 rfl (b:=b5) zM rfl rfl rfl ?_))
 refine W_storeA (l':=hdC g) rfl rfl ty40 rfl rfl (b:=b4) zM (by exact Nat.le_refl 2) rfl zU ?_
 refine W_nil (W_ret1cO (H2:=(mb,.cells 217 7 [.int .i64 (kind:Int),.int .i64 (entries:Int),.int .i64 (words:Int),.pointer (some ⟨ab,0,none⟩),.pointer (some ⟨tb,0,none⟩),.pointer (some ⟨bo,0,none⟩),.bool closed])::(HA++(HT2++(HO2++H)))) Tryz.results148 rfl (.nil _) ty40 rfl (b:=b4) zM rfl zH ?_)
 exact ⟨HT2,HO2,hB2,hO2,by rw [hg],rfl⟩
theorem Look_q {w0:World} {H:Heap} {mb ab tb bo kind entries words:Nat} {closed:Bool} {C:List (Int × Hd)} {HA HT HO:Heap} (hB:TabH tb entries C HT) {k:Int} (hm:∀ p∈((mb,.cells 217 7 [.int .i64 (kind:Int),.int .i64 (entries:Int),.int .i64 (words:Int),.pointer (some ⟨ab,0,none⟩),.pointer (some ⟨tb,0,none⟩),.pointer (some ⟨bo,0,none⟩),.bool closed])::(HA++(HT++HO))),p∈H) :PureAt Tryz.prog w0 H 142 [.pointer (some ⟨mb,0,none⟩),.int .u64 k] (.tuple #[.agg (List.toArray (hdC ((fndC C k).getD zHd))),.int .i64 (if (fndC C k).isSome then 0 else 4)]):=by
 refine L_enter Tryz.func142 rfl Tryz.ntmps142 rfl rfl ?_
 refine W_sr ?_
 refine W_alloc (l:=hdC zHd) ty40 rfl rfl (fun b4=>?_)
 refine W_assign rfl rfl (W_nil (W_seq (W_sr (W_move rfl rfl ?_))))
 refine W_x (X_ptrNil rfl rfl ty65) (fun _ h=>by cases h) rfl ?_
 refine W_nil (W_condF rfl rfl (W_skip (W_sr (W_move rfl rfl (W_nilCheck rfl rfl (W_fieldAddr rfl fld217_4 zd rfl ?_))))))
 refine W_load (v:=.pointer (some ⟨tb,0,none⟩)) rfl ty214 rfl (Cell.own (b:=mb) (by repeat (first | exact hm _ List.mem_cons_self | apply List.mem_cons_of_mem)) rfl) rfl ?_
 refine W_move rfl rfl ?_
 refine W_callq (.cons rfl (.cons rfl .nil)) Tryz.call234 rfl (hB.get (k:=k) (fun p hp=>by repeat (first | exact hm p (List.mem_cons_of_mem _ (List.mem_append_right _ (List.mem_append_left _ hp))) | apply List.mem_cons_of_mem))) ?_
 unfold getV
 rcases hf:fndC C k with _ | g
 ·skip
  simp only [Option.getD_none,Option.isSome_none]
  refine W_move rfl rfl (W_extract rfl rfl rfl (W_extract rfl rfl rfl ?_))
  refine W_alloc (l:=hdC zHd) ty40 rfl rfl (fun b6=>?_)
  refine W_storeA (l':=hdC zHd) rfl rfl ty40 rfl rfl (b:=b6) zM (by exact Nat.le_refl 2) rfl zU ?_
  refine W_assign rfl rfl (W_nil (W_seq (W_sr (W_move rfl rfl (W_not rfl rfl ?_)))))
  refine W_nil (W_condT rfl rfl (W_sr (W_build (l:=hdC zHd) ty40 pl40 .nil rfl rfl rfl ?_)))
  refine W_storeA (l':=hdC zHd) rfl rfl ty40 rfl rfl (b:=b4) zM (by exact Nat.le_refl 2) rfl zU ?_
  refine W_assign rfl rfl (W_nil (W_ret2G (H2:=H) Tryz.results142 (.nil _) (.own (vs:=hdC zHd) rfl ty40 rfl (b:=b4) zM rfl) (.tmp rfl) zH ?_))
  exact ⟨rfl,rfl⟩
 ·skip
  simp only [Option.getD_some,Option.isSome_some]
  refine W_move rfl rfl (W_extract rfl rfl rfl (W_extract rfl rfl rfl ?_))
  refine W_alloc (l:=hdC zHd) ty40 rfl rfl (fun b6=>?_)
  refine W_storeA (l':=hdC g) rfl rfl ty40 rfl rfl (b:=b6) zM (by exact Nat.le_refl 2) rfl zU ?_
  refine W_assign rfl rfl (W_nil (W_seq (W_sr (W_move rfl rfl (W_not rfl rfl ?_)))))
  refine W_nil (W_condF rfl rfl (W_skip (W_sr (W_loadB (vs:=hdC g) rfl ty40 rfl (b:=b6) zM rfl rfl rfl ?_))))
  refine W_storeA (l':=hdC g) rfl rfl ty40 rfl rfl (b:=b4) zM (by exact Nat.le_refl 2) rfl zU ?_
  refine W_assign rfl rfl (W_nil (W_ret2G (H2:=H) Tryz.results142 (.nil _) (.own (vs:=hdC g) rfl ty40 rfl (b:=b4) zM rfl) (.tmp rfl) zH ?_))
  exact ⟨rfl,rfl⟩
theorem mem3 {a:Nat × Blk} {X Y Z H:Heap}:∀ p∈a::(X++(Y++Z)),p∈a::(X++(Y++(Z++H))):=fun p hp=>by
 rcases List.mem_cons.1 hp with rfl | hp
 ·exact List.mem_cons_self
 ·refine List.mem_cons_of_mem _ ?_
  rcases List.mem_append.1 hp with hp | hp
  ·exact List.mem_append_left _ hp
  ·refine List.mem_append_right _ ?_
   rcases List.mem_append.1 hp with hp | hp
   ·exact List.mem_append_left _ hp
   ·exact List.mem_append_right _ (List.mem_append_left _ hp)
structure Xm where
 kind:Nat
 entries:Nat
 words:Nat
 closed:Bool
 L:List Slt
 C:List (Int × Hd)
 used:List Int
structure Xm.Ok (x:Xm):Prop where
 knd:x.kind≤2
 ent:1≤x.entries∧x.entries≤8
 wrd:1≤x.words∧x.words≤4
 len:x.L.length=2*x.entries
 are:AreOk x.L
 nd:(keyL x.C).Nodup
 perm:x.used.Perm (keyL x.C)
 le:x.C.length≤x.entries
 lk:∀ p∈x.C,∃ (i:Nat) (s:Slt),p.2.slot=(i:Int)∧x.L[i]?=some s∧s.st=1∧s.own=p.2∧s.cel.key=p.1
 rng:∀ k∈keyL x.C,0≤k∧k<18446744073709551616
def Xm.use (x:Xm) (k:Int):Xm:={ x with used:=drop1O x.used k++[k] }
def Xm.link (x:Xm) (c:Cel):Xm × Hd:=match firstF x.L with
 | some i=>match x.L[i]? with
  | some s=>({ x with L:=x.L.set i { s with st:=1,cel:=c },C:=(c.key,s.own)::x.C,used:=drop1O x.used c.key++[c.key] },s.own)
  | none=>(x,zHd)
 | none=>(x,zHd)
def Xm.unlink (x:Xm) (k:Int):Xm × Hd:=({ x with C:=delC x.C k,used:=drop1O x.used k },(fndC x.C k).getD zHd)
def Xm.refE (x:Xm) (how:Int):Int:=if x.kind=0 then 2 else if how=2 then 4 else if x.kind=1∧x.C.length=x.entries then 3 else if cntA 0 x.L=0 then 20 else 0
structure Putt where
 h:Hd
 gone:Hd
 out:Bool
deriving DecidableEq
def puttC (p:Putt):List Value:=[.int .i64 p.h.slot,.int .i64 p.h.gen,.int .i64 p.gone.slot,.int .i64 p.gone.gen,.bool p.out]
def zPutt:Putt:=⟨zHd,zHd,false⟩
def Xm.put (x:Xm) (how k:Int) (ws:List Int):Xm × Putt × Int :=
 if (how<0∨2<how)∨x.words<ws.length then (x,zPutt,1)
 else if x.closed=true then (x,zPutt,22)
 else match fndC x.C k with
  | some g=>if how=1 then (x,zPutt,5) else ({ x.use k with L:=setAX x.L g (fun s=>{ s with cel:=⟨k,W4.of ws⟩ }) },⟨g,zHd,false⟩,errA x.L g)
  | none=>if x.refE how≠0 then (x,zPutt,x.refE how)
   else if x.C.length=x.entries then
    (((x.unlink (x.used.headD 0)).1.link ⟨k,W4.of ws⟩).1,⟨((x.unlink (x.used.headD 0)).1.link ⟨k,W4.of ws⟩).2,(x.unlink (x.used.headD 0)).2,true⟩,0)
   else ((x.link ⟨k,W4.of ws⟩).1,⟨(x.link ⟨k,W4.of ws⟩).2,zHd,false⟩,0)
def Xm.del (x:Xm) (k:Int):Xm × Hd × Int:=if x.kind=0 then (x,zHd,17) else match fndC x.C k with
 | some _=>((x.unlink k).1,(x.unlink k).2,0)
 | none=>(x,zHd,4)
def Xm.linked (x:Xm) (h:Hd):Bool:=decide (errA x.L h=0) && decide (fndC x.C (celA x.L h).key=some h)
def Xm.free (x:Xm) (h:Hd):Xm × Int:=if errA x.L h≠0 then (x,errA x.L h) else if x.linked h=true then (x,21) else ({ x with L:=setAX x.L h relS },0)
def Xm.load (x:Xm) (h:Hd) (at_:Int):Int × Int:=if errA x.L h≠0 then (0,errA x.L h) else if at_<0∨(x.words:Int)≤at_ then (0,1) else ((celA x.L h).w.get at_.toNat,0)
def Xm.store (x:Xm) (h:Hd) (at_ v:Int):Xm × Int:=if errA x.L h≠0 then (x,errA x.L h) else if at_<0∨(x.words:Int)≤at_ then (x,1) else ({ x with L:=setAX x.L h (fun s=>{ s with cel:=⟨s.cel.key,s.cel.w.put at_.toNat v⟩ }) },0)
def Xm.key (x:Xm) (h:Hd):Int × Int:=((celA x.L h).key,errA x.L h)
theorem keyL_mem {C:List (Int × Hd)} {k:Int} {g:Hd} (h:fndC C k=some g):k∈keyL C:=List.mem_map.2 ⟨(k,g),fndC_mem h,rfl⟩
theorem Xm.Ok.ulen {x:Xm} (h:x.Ok):x.used.length=x.C.length:=by have:=h.perm.length_eq; simpa using this
theorem Xm.Ok.und {x:Xm} (h:x.Ok):x.used.Nodup:=h.perm.nodup_iff.2 h.nd
theorem Xm.Ok.umem {x:Xm} (h:x.Ok) {k:Int}:k∈x.used↔k∈keyL x.C:=h.perm.mem_iff
theorem Xm.Ok.own {x:Xm} (h:x.Ok) {k:Int} {g:Hd} (hf:fndC x.C k=some g):∃ (i:Nat) (s:Slt),g.slot=(i:Int)∧x.L[i]?=some s∧s.st=1∧s.own=g∧s.cel.key=k:=h.lk (k,g) (fndC_mem hf)
theorem Xm.Ok.err0 {x:Xm} (h:x.Ok) {k:Int} {g:Hd} (hf:fndC x.C k=some g):errA x.L g=0:=by
 obtain ⟨i,s,h1,h2,h3,h4,_⟩:=h.own hf
 exact errA_is h1 h2 h3 h4
theorem Xm.Ok.use {x:Xm} (h:x.Ok) {k:Int} (hk:k∈x.used):(x.use k).Ok :=
 ⟨h.knd,h.ent,h.wrd,h.len,h.are,h.nd,((drop1O_perm h.und hk).symm.trans h.perm),h.le,h.lk,h.rng⟩
theorem Xm.Ok.unlink {x:Xm} (h:x.Ok) (k:Int):(x.unlink k).1.Ok:=by
 refine ⟨h.knd,h.ent,h.wrd,h.len,h.are,delC_nodup h.nd k,?_,Nat.le_trans (List.length_filter_le _ _) h.le,fun p hp=>h.lk p (List.mem_filter.1 hp).1,fun k2 hk2=>?_⟩
 ·show (drop1O x.used k).Perm (keyL (delC x.C k))
  rw [keyL_del]
  exact h.perm.filter _
 ·obtain ⟨p,hp,rfl⟩:=List.mem_map.1 hk2
  exact h.rng p.1 (List.mem_map.2 ⟨p,(List.mem_filter.1 hp).1,rfl⟩)
theorem lk_set {C:List (Int × Hd)} {L:List Slt} {i:Nat} {t:Slt} (hl:∀ p∈C,∃ (i:Nat) (s:Slt),p.2.slot=(i:Int)∧L[i]?=some s∧s.st=1∧s.own=p.2∧s.cel.key=p.1) (ht:∀ s,L[i]?=some s→s.st=1→t.st=1∧t.own=s.own∧t.cel.key=s.cel.key) :
  ∀ p∈C,∃ (j:Nat) (s:Slt),p.2.slot=(j:Int)∧(L.set i t)[j]?=some s∧s.st=1∧s.own=p.2∧s.cel.key=p.1:=fun p hp=>by
 obtain ⟨j,s,h1,h2,h3,h4,h5⟩:=hl p hp
 by_cases e:i=j
 ·subst e
  obtain ⟨a1,a2,a3⟩:=ht s h2 h3
  exact ⟨i,t,h1,List.getElem?_set_self (List.getElem?_eq_some_iff.1 h2).1,a1,a2.trans h4,a3.trans h5⟩
 ·exact ⟨j,s,h1,by rw [List.getElem?_set_ne e]; exact h2,h3,h4,h5⟩
theorem Xm.link_is {x:Xm} {c:Cel} {i:Nat} {s:Slt} (hf:firstF x.L=some i) (hs:x.L[i]?=some s):x.link c=({ x with L:=x.L.set i { s with st:=1,cel:=c },C:=(c.key,s.own)::x.C,used:=drop1O x.used c.key++[c.key] },s.own):=by
 unfold Xm.link; rw [hf]; dsimp only; rw [hs]
theorem Xm.Ok.link {x:Xm} (h:x.Ok) {c:Cel} {i:Nat} {s:Slt} (hf:firstF x.L=some i) (hs:x.L[i]?=some s) (hk:c.key ∉ keyL x.C) (hr:x.C.length<x.entries) (hc:0≤c.key∧c.key<18446744073709551616):(x.link c).1.Ok:=by
 rw [Xm.link_is hf hs]
 obtain ⟨s',hs',h0,-⟩:=firstF_some hf
 obtain rfl:s=s':=Option.some.inj (hs.symm.trans hs')
 have hi:=(List.getElem?_eq_some_iff.1 hs).1
 refine ⟨h.knd,h.ent,h.wrd,by show (x.L.set i _).length=_; rw [List.length_set]; exact h.len,h.are.set (h.are.own i s hs),List.nodup_cons.2 ⟨hk,h.nd⟩,?_,by show x.C.length+1≤x.entries; omega,fun p hp=>?_,fun k hk2=>?_⟩
 ·show (drop1O x.used c.key++[c.key]).Perm (c.key::keyL x.C)
  rw [drop1O_not (fun hm=>hk (h.umem.1 hm))]
  exact (List.perm_append_singleton _ _).trans (h.perm.cons _)
 ·rcases List.mem_cons.1 hp with rfl | hp
  ·exact ⟨i,_,(h.are.own i s hs).1,List.getElem?_set_self hi,rfl,rfl,rfl⟩
  ·exact lk_set h.lk (fun t ht h1=>by
    obtain rfl:s=t:=Option.some.inj (hs.symm.trans ht)
    omega) p hp
 ·rcases List.mem_cons.1 hk2 with rfl | hk2
  ·exact hc
  ·exact h.rng k hk2
theorem Xm.Ok.cel {x:Xm} (h:x.Ok) (g:Hd) (f:Cel→Cel) (hf:∀ c,errA x.L g=0→c=celA x.L g→(f c).key=c.key):(Xm.mk x.kind x.entries x.words x.closed (setAX x.L g (fun s=>{ s with cel:=f s.cel })) x.C x.used).Ok:=by
 by_cases he:errA x.L g=0
 ·obtain ⟨i,s,h1,h2,h3,h4,h5,h6⟩:=errA_ok he
  rw [h6]
  refine ⟨h.knd,h.ent,h.wrd,by show (x.L.set i _).length=_; rw [List.length_set]; exact h.len,h.are.set (h.are.own i s h2),h.nd,h.perm,h.le,lk_set h.lk (fun t ht hu=>?_),h.rng⟩
  obtain rfl:s=t:=Option.some.inj (h2.symm.trans ht)
  exact ⟨h3,rfl,hf _ he h5.symm⟩
 ·rw [(errA_no he).2]; exact h
theorem Xm.Ok.free {x:Xm} (h:x.Ok) (g:Hd):(x.free g).1.Ok:=by
 unfold Xm.free
 by_cases he:errA x.L g≠0
 ·rw [if_pos he]; exact h
 ·rw [if_neg he]
  by_cases hl:x.linked g=true
  ·rw [if_pos hl]; exact h
  ·rw [if_neg hl]
   have he:errA x.L g=0:=Classical.not_not.1 he
   obtain ⟨i,s,h1,h2,h3,h4,h5,h6⟩:=errA_ok he
   show (Xm.mk x.kind x.entries x.words x.closed (setAX x.L g relS) x.C x.used).Ok
   rw [h6]
   refine ⟨h.knd,h.ent,h.wrd,by show (x.L.set i _).length=_; rw [List.length_set]; exact h.len,h.are.rel h2,h.nd,h.perm,h.le,fun p hp=>?_,h.rng⟩
   obtain ⟨j,t,b1,b2,b3,b4,b5⟩:=h.lk p hp
   by_cases e:i=j
   ·exfalso
    subst e
    obtain rfl:s=t:=Option.some.inj (h2.symm.trans b2)
    apply hl
    unfold Xm.linked
    rw [decide_eq_true he,Bool.true_and,h5,b5]
    have:(p.1,g)∈x.C:=by
     have e:p.2=g:=b4.symm.trans h4
     rw [← e]; exact hp
    exact decide_eq_true (fndC_of h.nd this)
   ·exact ⟨j,t,b1,by show (x.L.set i _)[j]?=_; rw [List.getElem?_set_ne e]; exact b2,b3,b4,b5⟩
theorem full_q {w0:World} {H:Heap} {mb ab tb bo kind entries words:Nat} {closed:Bool} {C:List (Int × Hd)} {HA HT HO:Heap} (hB:TabH tb entries C HT) (hm:∀ p∈((mb,.cells 217 7 [.int .i64 (kind:Int),.int .i64 (entries:Int),.int .i64 (words:Int),.pointer (some ⟨ab,0,none⟩),.pointer (some ⟨tb,0,none⟩),.pointer (some ⟨bo,0,none⟩),.bool closed])::(HA++(HT++HO))),p∈H) :PureAt Tryz.prog w0 H 146 [.pointer (some ⟨mb,0,none⟩)] (.bool (decide (C.length=entries))):=by
 refine L_enter Tryz.func146 rfl Tryz.ntmps146 rfl rfl ?_
 refine W_sr (W_assign rfl rfl (W_nil (W_seq ?_)))
 refine W_anyC H zk ?_
 refine WC_take 0 rfl zK zK zK rfl rfl (X_move rfl) rfl ?_
 refine WC_take 1 rfl zK zK zK rfl rfl (X_nilCheck rfl) rfl ?_
 refine WC_take 2 rfl zK zK zK rfl rfl (X_fieldAddr rfl fld217_4 zd) rfl ?_
 refine WC_take 3 rfl zK zK zK rfl rfl (X_load (v:=.pointer (some ⟨tb,0,none⟩)) rfl ty214 rfl (Cell.own (b:=mb) (by repeat (first | exact hm _ List.mem_cons_self | apply List.mem_cons_of_mem)) rfl)) rfl ?_
 refine WC_take 5 rfl zK zK zK rfl rfl (X_move rfl) rfl ?_
 refine WC_take 6 rfl zK zK zK rfl rfl (X_nilCheck rfl) rfl ?_
 refine WC_take 7 rfl zK zK zK rfl rfl (X_fieldAddr rfl fld217_1 zd) rfl ?_
 refine WC_take 8 rfl zK zK zK rfl rfl (X_load (v:=.int .i64 (entries:Int)) rfl ty3 rfl (Cell.own (b:=mb) (by repeat (first | exact hm _ List.mem_cons_self | apply List.mem_cons_of_mem)) rfl)) rfl ?_
 refine WC_one 4 zH zK rfl rfl ?_
 refine W_callq (.cons rfl .nil) Tryz.call126 rfl (hB.lenq (fun p hp=>by repeat (first | exact hm p (List.mem_cons_of_mem _ (List.mem_append_right _ (List.mem_append_left _ hp))) | apply List.mem_cons_of_mem))) ?_
 refine W_nil ?_
 refine WC_goal ?_
 refine WC_take 9 rfl zK zK zK rfl rfl (X_bin rfl rfl b_eql) rfl ?_
 rw [show decide ((C.length:Int)=(entries:Int))=decide (C.length=entries) from decide_eq_decide.2 (by omega)]
 refine WC_take 10 rfl zK zK zK rfl rfl (X_assign rfl) rfl ?_
 refine WC_done zH zK ?_
 refine W_ret1m (H2:=H) Tryz.results146 rfl (.nil _) zH ?_
 exact ⟨rfl,rfl⟩
theorem refuse_q {w0:World} {H:Heap} {mb ab tb bo kind entries words:Nat} {closed:Bool} {L:List Slt} {C:List (Int × Hd)} {used:List Int} {HA HT HO:Heap} (hA:AreH ab L HA) (hB:TabH tb entries C HT) {how:Int} (hm:∀ p∈((mb,.cells 217 7 [.int .i64 (kind:Int),.int .i64 (entries:Int),.int .i64 (words:Int),.pointer (some ⟨ab,0,none⟩),.pointer (some ⟨tb,0,none⟩),.pointer (some ⟨bo,0,none⟩),.bool closed])::(HA++(HT++HO))),p∈H) :PureAt Tryz.prog w0 H 145 [.pointer (some ⟨mb,0,none⟩),.int .i64 how] (.int .i64 (Xm.refE (⟨kind,entries,words,closed,L,C,used⟩:Xm) how)):=by
 refine L_enter Tryz.func145 rfl Tryz.ntmps145 rfl rfl ?_
 refine W_sr (W_assign rfl rfl (W_nil (W_seq (W_block (W_sr (W_move rfl rfl (W_nilCheck rfl rfl (W_fieldAddr rfl fld217_0 zd rfl ?_))))))))
 refine W_load (v:=.int .i64 (kind:Int)) rfl ty3 rfl (Cell.own (b:=mb) (by repeat (first | exact hm _ List.mem_cons_self | apply List.mem_cons_of_mem)) rfl) rfl ?_
 refine W_bin rfl rfl b_eql rfl ?_
 refine W_assign rfl rfl (W_nil ?_)
 refine W_condPS (p:=kind=0) rfl (by simp) (fun c0=>?_) (fun c0=>?_)
 ·skip
  refine W_sr (W_assign rfl rfl (W_nil (W_ret1m (H2:=H) Tryz.results145 rfl (.nil _) zH ?_)))
  exact ⟨by unfold Xm.refE; dsimp only; rw [if_pos c0],rfl⟩
 ·skip
  refine W_sr (W_move rfl rfl (W_bin rfl rfl b_eql rfl ?_))
  refine W_assign rfl rfl (W_nil ?_)
  refine W_condPS (p:=how=2) rfl (by simp) (fun c1=>?_) (fun c1=>?_)
  ·skip
   refine W_sr (W_assign rfl rfl (W_nil (W_ret1m (H2:=H) Tryz.results145 rfl (.nil _) zH ?_)))
   exact ⟨by unfold Xm.refE; dsimp only; rw [if_neg c0,if_pos c1],rfl⟩
  ·skip
   refine W_sr (W_move rfl rfl (W_nilCheck rfl rfl (W_fieldAddr rfl fld217_0 zd rfl ?_)))
   refine W_load (v:=.int .i64 (kind:Int)) rfl ty3 rfl (Cell.own (b:=mb) (by repeat (first | exact hm _ List.mem_cons_self | apply List.mem_cons_of_mem)) rfl) rfl ?_
   refine W_bin rfl rfl b_eql rfl ?_
   refine W_move rfl rfl ?_
   apply W_and
   iterate 4 exact rfl
   case h1 =>
    intro hg5
    refine W_gyes rfl rfl (W_move rfl rfl (W_gyes rfl rfl (W_callq (.cons rfl .nil) Tryz.call146 rfl (full_q hB (HA:=HA) (HO:=HO) (closed:=closed) (kind:=kind) (words:=words) hm) ?_)))
    exact W_met rfl zR
   refine W_assign rfl rfl (W_nil ?_)
   refine W_condPS (p:=kind=1∧C.length=entries) rfl (by simp; omega) (fun c2=>?_) (fun c2=>?_)
   ·skip
    refine W_sr (W_assign rfl rfl (W_nil (W_ret1m (H2:=H) Tryz.results145 rfl (.nil _) zH ?_)))
    exact ⟨by unfold Xm.refE; dsimp only; rw [if_neg c0,if_neg c1,if_pos c2],rfl⟩
   ·skip
    refine W_sr (W_move rfl rfl (W_nilCheck rfl rfl (W_fieldAddr rfl fld217_3 zd rfl ?_)))
    refine W_load (v:=.pointer (some ⟨ab,0,none⟩)) rfl ty213 rfl (Cell.own (b:=mb) (by repeat (first | exact hm _ List.mem_cons_self | apply List.mem_cons_of_mem)) rfl) rfl ?_
    refine W_callq (.cons rfl .nil) Tryz.call237 rfl (hA.roomq (fun p hp=>by repeat (first | exact hm p (List.mem_cons_of_mem _ (List.mem_append_left _ hp)) | apply List.mem_cons_of_mem))) ?_
    refine W_bin rfl rfl b_eql rfl ?_
    refine W_assign rfl rfl (W_nil ?_)
    refine W_condPS (p:=cntA 0 L=0) rfl (by simp) (fun c3=>?_) (fun c3=>?_)
    ·skip
     refine W_sr (W_assign rfl rfl (W_nil (W_ret1m (H2:=H) Tryz.results145 rfl (.nil _) zH ?_)))
     exact ⟨by unfold Xm.refE; dsimp only; rw [if_neg c0,if_neg c1,if_neg c2,if_pos c3],rfl⟩
    ·skip
     refine W_skip (W_blk (W_sr (W_assign rfl rfl (W_nil (W_ret1m (H2:=H) Tryz.results145 rfl (.nil _) zH ?_)))))
     exact ⟨by unfold Xm.refE; dsimp only; rw [if_neg c0,if_neg c1,if_neg c2,if_neg c3],rfl⟩
theorem Del_at {w0:World} {H:Heap} {mb ab tb bo T kind entries words:Nat} {closed:Bool} {L:List Slt} {C:List (Int × Hd)} {used:List Int} {HA HT HO:Heap} (hB:TabH tb entries C HT) (hO:OrdH bo entries T used HO) {k:Int} :LCalls Tryz.prog w0 68 #[.pointer (some ⟨mb,0,none⟩),.int .u64 k] ((mb,.cells 217 7 [.int .i64 (kind:Int),.int .i64 (entries:Int),.int .i64 (words:Int),.pointer (some ⟨ab,0,none⟩),.pointer (some ⟨tb,0,none⟩),.pointer (some ⟨bo,0,none⟩),.bool closed])::(HA++(HT++(HO++H)))) (fun v H'=>∃ HT' HO',TabH tb entries (Xm.del (⟨kind,entries,words,closed,L,C,used⟩:Xm) k).1.C HT'∧OrdH bo entries T (Xm.del (⟨kind,entries,words,closed,L,C,used⟩:Xm) k).1.used HO'∧v=.tuple #[.agg (List.toArray (hdC (Xm.del (⟨kind,entries,words,closed,L,C,used⟩:Xm) k).2.1)),.int .i64 (Xm.del (⟨kind,entries,words,closed,L,C,used⟩:Xm) k).2.2]∧H'=(mb,.cells 217 7 [.int .i64 (kind:Int),.int .i64 (entries:Int),.int .i64 (words:Int),.pointer (some ⟨ab,0,none⟩),.pointer (some ⟨tb,0,none⟩),.pointer (some ⟨bo,0,none⟩),.bool closed])::(HA++(HT'++(HO'++H)))):=by
 refine L_enter (l:=[.pointer (some ⟨mb,0,none⟩),.int .u64 k]) Tryz.func68 rfl Tryz.ntmps68 rfl rfl ?_
 refine W_sr ?_
 refine W_alloc (l:=hdC zHd) ty40 rfl rfl (fun b4=>?_)
 refine W_assign rfl rfl (W_nil (W_seq (W_sr (W_move rfl rfl ?_))))
 refine W_x (X_ptrNotNil rfl rfl ty65) (fun _ h=>by cases h) rfl ?_
 refine W_move rfl rfl ?_
 apply W_and
 iterate 4 exact rfl
 case h1 =>
  intro hg2
  refine W_gyes rfl rfl (W_move rfl rfl (W_gyes rfl rfl (W_nilCheck rfl rfl (W_gyes rfl rfl (W_fieldAddr rfl fld217_0 zd rfl ?_)))))
  refine W_gyes rfl rfl (W_load (v:=.int .i64 (kind:Int)) rfl ty3 rfl (Cell.own (b:=mb) zM rfl) rfl ?_)
  refine W_gyes rfl rfl (W_bin rfl rfl b_eql rfl ?_)
  exact W_met rfl zR
 refine W_nil ?_
 refine W_condPS (p:=kind=0) rfl (by simp) (fun c0=>?_) (fun c0=>?_)
 ·skip
  refine W_sr (W_build (l:=hdC zHd) ty40 pl40 .nil rfl rfl rfl ?_)
  refine W_storeA (l':=hdC zHd) rfl rfl ty40 rfl rfl (b:=b4) zM (by exact Nat.le_refl 2) rfl zU ?_
  refine W_assign rfl rfl (W_nil (W_ret2G (H2:=(mb,.cells 217 7 [.int .i64 (kind:Int),.int .i64 (entries:Int),.int .i64 (words:Int),.pointer (some ⟨ab,0,none⟩),.pointer (some ⟨tb,0,none⟩),.pointer (some ⟨bo,0,none⟩),.bool closed])::(HA++(HT++(HO++H)))) Tryz.results68 (.nil _) (.own (vs:=hdC zHd) rfl ty40 rfl (b:=b4) zM rfl) (.tmp rfl) zH ?_))
  have e:Xm.del (⟨kind,entries,words,closed,L,C,used⟩:Xm) k=((⟨kind,entries,words,closed,L,C,used⟩:Xm),zHd,17):=by unfold Xm.del; rw [if_pos c0]
  rw [e]
  exact ⟨HT,HO,hB,hO,rfl,rfl⟩
 ·skip
  refine W_skip (W_seq (W_sr (W_move rfl rfl (W_move rfl rfl ?_))))
  refine W_callq (.cons rfl (.cons rfl .nil)) Tryz.call142 rfl (Look_q hB (k:=k) (HA:=HA) (HO:=HO) (closed:=closed) (kind:=kind) (words:=words) (fun p hp=>by repeat (first | exact mem3 p hp | apply List.mem_cons_of_mem))) ?_
  rcases hf:fndC C k with _ | g
  ·skip
   simp only [Option.getD_none,Option.isSome_none,Bool.false_eq_true,if_false]
   refine W_move rfl rfl (W_extract rfl rfl rfl (W_extract rfl rfl rfl ?_))
   refine W_alloc (l:=hdC zHd) ty40 rfl rfl (fun b6=>?_)
   refine W_storeA (l':=hdC zHd) rfl rfl ty40 rfl rfl (b:=b6) zM (by exact Nat.le_refl 2) rfl zU ?_
   refine W_assign rfl rfl (W_nil (W_sr (W_move rfl rfl (W_bin rfl rfl b_neq rfl ?_))))
   refine W_nil (W_condT rfl rfl (W_sr (W_build (l:=hdC zHd) ty40 pl40 .nil rfl rfl rfl ?_)))
   refine W_move rfl rfl ?_
   refine W_storeA (l':=hdC zHd) rfl rfl ty40 rfl rfl (b:=b4) zM (by exact Nat.le_refl 2) rfl zU ?_
   refine W_assign rfl rfl (W_nil (W_ret2G (H2:=(mb,.cells 217 7 [.int .i64 (kind:Int),.int .i64 (entries:Int),.int .i64 (words:Int),.pointer (some ⟨ab,0,none⟩),.pointer (some ⟨tb,0,none⟩),.pointer (some ⟨bo,0,none⟩),.bool closed])::(HA++(HT++(HO++H)))) Tryz.results68 (.nil _) (.own (vs:=hdC zHd) rfl ty40 rfl (b:=b4) zM rfl) (.tmp rfl) zH ?_))
   have e:Xm.del (⟨kind,entries,words,closed,L,C,used⟩:Xm) k=((⟨kind,entries,words,closed,L,C,used⟩:Xm),zHd,4):=by unfold Xm.del; rw [if_neg c0]; dsimp only; rw [hf]
   rw [e]
   exact ⟨HT,HO,hB,hO,rfl,rfl⟩
  ·skip
   simp only [Option.getD_some,Option.isSome_some,if_true]
   refine W_move rfl rfl (W_extract rfl rfl rfl (W_extract rfl rfl rfl ?_))
   refine W_alloc (l:=hdC zHd) ty40 rfl rfl (fun b6=>?_)
   refine W_storeA (l':=hdC g) rfl rfl ty40 rfl rfl (b:=b6) zM (by exact Nat.le_refl 2) rfl zU ?_
   refine W_assign rfl rfl (W_nil (W_sr (W_move rfl rfl (W_bin rfl rfl b_neq rfl ?_))))
   refine W_nil (W_condF rfl rfl (W_skip (W_sr (W_move rfl rfl (W_move rfl rfl (W_call (.cons rfl (.cons rfl .nil)) Tryz.call148 rfl ((unlink_at (closed:=closed) (kind:=kind) (words:=words) (HA:=HA) hB hO (k:=k) (H:=(b6,.cells 40 2 (hdC g))::(b4,.cells 40 2 (hdC zHd))::H)).hsub zH) ?_))))))
   rintro v H' ⟨HT2,HO2,hB2,hO2,rfl,rfl⟩
   rw [hf,Option.getD_some]
   refine W_storeA (l':=hdC g) rfl rfl ty40 rfl rfl (b:=b4) zM (by exact Nat.le_refl 2) rfl zU ?_
   refine W_assign rfl rfl (W_nil (W_ret2G (H2:=(mb,.cells 217 7 [.int .i64 (kind:Int),.int .i64 (entries:Int),.int .i64 (words:Int),.pointer (some ⟨ab,0,none⟩),.pointer (some ⟨tb,0,none⟩),.pointer (some ⟨bo,0,none⟩),.bool closed])::(HA++(HT2++(HO2++H)))) Tryz.results68 (.nil _) (.own (vs:=hdC g) rfl ty40 rfl (b:=b4) zM rfl) (.tmp rfl) zH ?_))
   have e:Xm.del (⟨kind,entries,words,closed,L,C,used⟩:Xm) k=((Xm.unlink (⟨kind,entries,words,closed,L,C,used⟩:Xm) k).1,g,0):=by unfold Xm.del; rw [if_neg c0]; dsimp only; rw [hf]; show (_,(fndC C k).getD zHd,_)=_; rw [hf]; rfl
   rw [e]
   exact ⟨HT2,HO2,hB2,hO2,rfl,rfl⟩
end Go.Proofs.YtincjohoncljoaaGreatDoor
