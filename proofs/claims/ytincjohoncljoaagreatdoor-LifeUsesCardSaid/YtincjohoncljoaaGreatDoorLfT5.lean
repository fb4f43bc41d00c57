/-
  Own work: contracts of functions that the statement reaches, and plain facts on what they compute; each theorem says its conditions.
-/
import Derived.Test.YtincjohoncljoaaGreatDoorLfT4
import Derived.Test.YtincjohoncljoaaGreatDoorLfS1
import Derived.Test.YtincjohoncljoaaGreatDoorLfS2
import Derived.Test.YtincjohoncljoaaGreatDoorShelf
import Derived.Test.YtincjohoncljoaaGreatDoorLfA
set_option linter.all false
set_option linter.unusedSimpArgs false
set_option linter.unusedVariables false
set_option maxHeartbeats 16000000
namespace Go.Proofs.YtincjohoncljoaaGreatDoor
open Go Go.Sl
attribute [local irreducible] W
theorem OwnS.is {e:TypeId} {s:Nat} {v:Value} {n:Nat} {xs:List Value} {HB:Heap} (h:OwnS e s v n xs HB) (hn:0<n):∃ b cap,v=.slice (some ⟨b,0,none⟩) n cap∧HB=[(b,.cells e (cap*s) xs)]∧n≤cap∧cap≤maxLen:=by
 cases h with
 | nil=>omega
 | own _ h2 h3=>exact ⟨_,_,rfl,rfl,h2,h3⟩
theorem del_miss {w0:World} {H:Heap} {bw bm now turn c:Nat} {sl:List Value} {bs:List Nat} {l:Ents Int} {id:Int} (hok:RowOk sl bs) (hv:(mGet l id).getD zEnt=zEnt) (hh:mHas l id=false) :LCalls Tryz.prog w0 357 #[.pointer (some ⟨bw,0,none⟩),.int .i64 id] ((bw,.cells 406 523 (whRow now sl bs bm turn))::(bm,.obj (mapO (Value.int .i64) l c))::H) (fun v H'=>v=.bool false∧H'=(bw,.cells 406 523 (whRow now sl bs bm turn))::(bm,.obj (mapO (Value.int .i64) l c))::H):=by
 refine L_enter (l:=[.pointer (some ⟨bw,0,none⟩),.int .i64 id]) Tryz.func357 rfl Tryz.ntmps357 rfl rfl ?_
 refine W_sr ?_
 refine W_box (l:=[.int .i64 id]) rfl rfl rfl (fun b3=>?_)
 refine W_assign rfl rfl (W_nil (W_seq ?_))
 refine W_hsub (H':=(b3,.cells 3 1 [.int .i64 id])::(bw,.cells 406 523 (whRow now sl bs bm turn))::(bm,.obj (mapO (Value.int .i64) l c))::H) (.refl _) ?_
 refine W_anyC [(b3,.cells 3 1 [.int .i64 id]),(bw,.cells 406 523 (whRow now sl bs bm turn)),(bm,.obj (mapO (Value.int .i64) l c))] zk ?_
 refine WC_take 0 rfl zK zK zK rfl rfl (X_move rfl) rfl ?_
 refine WC_take 1 rfl zK zK zK rfl rfl (X_nilCheck rfl) rfl ?_
 refine WC_take 2 rfl zK zK zK rfl rfl (X_fieldAddr rfl fld406_3 zd) rfl ?_
 refine WC_take 3 rfl zK zK zK rfl rfl (X_load (v:=.map (some bm)) rfl ty404 rfl (Cell.own (b:=bw) zM (wh_map hok))) rfl ?_
 refine WC_take 4 rfl zK zK zK rfl rfl (X_load (v:=.int .i64 id) rfl ty3 rfl (Cell.own (b:=b3) zM rfl)) rfl ?_
 refine WC_take 5 rfl zK zK zK rfl rfl (X_lookup (b:=bm) (a:=id) (zE:=zEnt) rfl rfl keyI ty404 zEz zM) rfl ?_
 simp only [if_true]
 rw [hv,hh]
 refine WC_take 6 rfl zK zK zK rfl rfl (X_move rfl) rfl ?_
 refine WC_take 7 rfl zK zK zK rfl rfl (X_extract rfl rfl) rfl ?_
 refine WC_take 8 rfl zK zK zK rfl rfl (X_extract rfl rfl) rfl ?_
 refine WC_one 9 zH zK rfl rfl ?_
 refine W_alloc (l:=[.int .i64 0,.int .i64 0,.int .u64 0,.int .u64 0,.int .i64 0]) ty408 rfl rfl (fun b5=>?_)
 refine W_nil ?_
 refine WC_goal ?_
 refine WC_one 10 zH zK rfl rfl ?_
 refine W_storeA (l':=[.int .i64 0,.int .i64 0,.int .u64 0,.int .u64 0,.int .i64 0]) rfl rfl ty408 rfl rfl (b:=b5) zM (by exact Nat.le_refl 5) rfl zU ?_
 refine W_nil ?_
 refine WC_goal ?_
 refine WC_take 11 rfl zK zK zK rfl rfl (X_assign rfl) rfl ?_
 refine WC_done zH zK ?_
 refine W_seq (W_sr (W_move rfl rfl (W_not rfl rfl ?_)))
 refine W_nil (W_condT rfl rfl (W_sr (W_assign rfl rfl (W_nil (W_ret1m (H2:=(bw,.cells 406 523 (whRow now sl bs bm turn))::(bm,.obj (mapO (Value.int .i64) l c))::H) Tryz.results357 rfl (.nil _) zH ?_)))))
 exact ⟨rfl,rfl⟩
theorem del_at {w0:World} {H:Heap} {bw bm now turn c tn z:Nat} {L:List Tm} {sl:List Value} {XS:List Heap} {bs:List Nat} {l:Ents Int} {id:Int} {e:Spot} {v0:Value} {X:Heap} (hok:RowOk sl bs) (hmap:MapOk l c) (hv:(mGet l id).getD zEnt=.agg (e.v++[Value.int .i64 ((tn:Nat):Int)]).toArray) (hh:mHas l id=true) (hsp:e.lv<8∧e.slot<64) (hz:bs[e.lv]?=some z) (hz2:z<18446744073709551616) (hlen:(idsAt L (e.lv*64+e.slot)).length≤256) (hpos:0<(idsAt L (e.lv*64+e.slot)).length) (hsl:sl[(e.lv*64+e.slot)]?=some v0) (hX:XS[(e.lv*64+e.slot)]?=some X) (hO:OwnS 3 1 v0 (idsAt L (e.lv*64+e.slot)).length ((idsAt L (e.lv*64+e.slot)).map (Value.int .i64)) X) :LCalls Tryz.prog w0 357 #[.pointer (some ⟨bw,0,none⟩),.int .i64 id] ((bw,.cells 406 523 (whRow now sl bs bm turn))::(bm,.obj (mapO (Value.int .i64) l c))::(XS.flatten++H)) (fun v H'=>∃ b cap,v=.bool true∧(del1 (idsAt L (e.lv*64+e.slot)) id).length≤cap∧cap≤maxLen∧H'=(bw,.cells 406 523 (whRow now (sl.set (e.lv*64+e.slot) (Value.slice (some ⟨b,0,none⟩) (del1 (idsAt L (e.lv*64+e.slot)) id).length cap)) (if (del1 (idsAt L (e.lv*64+e.slot)) id).length=0 then (bs.set e.lv (outL z [(e.slot:Int)])) else bs) bm turn))::(bm,.obj (mapO (Value.int .i64) (mDel l id) c))::((b,.cells 3 (cap*1) (((del1 (idsAt L (e.lv*64+e.slot)) id)).map (Value.int .i64)))::((XS.set (e.lv*64+e.slot) []).flatten++H))):=by
 obtain ⟨b,cap,hv0,hXe,hcap,hmax⟩:=OwnS.is hO hpos
 have hok2:∀ v,RowOk (sl.set (e.lv*64+e.slot) v) bs:=fun v=>hok.setSl _ v
 have hok3:∀ v,RowOk (sl.set (e.lv*64+e.slot) v) (bs.set e.lv (outL z [(e.slot:Int)])):=fun v=>(hok.setSl _ v).setBs _ _
 have hdl:=del1_le (idsAt L (e.lv*64+e.slot)) id
 refine L_enter (l:=[.pointer (some ⟨bw,0,none⟩),.int .i64 id]) Tryz.func357 rfl Tryz.ntmps357 rfl rfl ?_
 refine W_sr ?_
 refine W_box (l:=[.int .i64 id]) rfl rfl rfl (fun b3=>?_)
 refine W_assign rfl rfl (W_nil (W_seq ?_))
 refine W_anyC [(b3,.cells 3 1 [.int .i64 id]),(bw,.cells 406 523 (whRow now sl bs bm turn)),(bm,.obj (mapO (Value.int .i64) l c))] zk ?_
 refine WC_take 0 rfl zK zK zK rfl rfl (X_move rfl) rfl ?_
 refine WC_take 1 rfl zK zK zK rfl rfl (X_nilCheck rfl) rfl ?_
 refine WC_take 2 rfl zK zK zK rfl rfl (X_fieldAddr rfl fld406_3 zd) rfl ?_
 refine WC_take 3 rfl zK zK zK rfl rfl (X_load (v:=.map (some bm)) rfl ty404 rfl (Cell.own (b:=bw) zM (wh_map hok))) rfl ?_
 refine WC_take 4 rfl zK zK zK rfl rfl (X_load (v:=.int .i64 id) rfl ty3 rfl (Cell.own (b:=b3) zM rfl)) rfl ?_
 refine WC_take 5 rfl zK zK zK rfl rfl (X_lookup (b:=bm) (a:=id) (zE:=zEnt) rfl rfl keyI ty404 zEz zM) rfl ?_
 simp only [if_true]
 rw [hv,hh]
 refine WC_take 6 rfl zK zK zK rfl rfl (X_move rfl) rfl ?_
 refine WC_take 7 rfl zK zK zK rfl rfl (X_extract rfl rfl) rfl ?_
 refine WC_take 8 rfl zK zK zK rfl rfl (X_extract rfl rfl) rfl ?_
 refine WC_one 9 zH zK rfl rfl ?_
 refine W_alloc (l:=[.int .i64 0,.int .i64 0,.int .u64 0,.int .u64 0,.int .i64 0]) ty408 rfl rfl (fun b5=>?_)
 refine W_nil ?_
 refine WC_goal ?_
 refine WC_one 10 zH zK rfl rfl ?_
 refine W_storeA (l':=(e.v++[Value.int .i64 ((tn:Nat):Int)])) rfl rfl ty408 rfl rfl (b:=b5) zM (by exact Nat.le_refl 5) rfl zU ?_
 refine W_nil ?_
 refine WC_goal ?_
 refine WC_take 11 rfl zK zK zK rfl rfl (X_assign rfl) rfl ?_
 refine WC_done zH zK ?_
 refine W_seq (W_sr (W_move rfl rfl (W_not rfl rfl ?_)))
 refine W_nil (W_condF rfl rfl (W_skip (W_sr (W_fieldAddr rfl fld408_0 zd rfl ?_))))
 refine W_loadB (vs:=e.v) rfl ty71 rfl (b:=b5) zM rfl rfl rfl ?_
 refine W_alloc (l:=zSpot.v) ty71 rfl rfl (fun b7=>?_)
 refine W_storeA (l':=e.v) rfl rfl ty71 rfl rfl (b:=b7) zM (by exact Nat.le_refl 4) rfl zU ?_
 refine W_nil (W_seq ?_)
 refine W_hsub (.cons (.here _) (.cons (.here _) (.cons (.here _) (.cons (.here _) (.cons (.here _) (flat_out hX)))))) ?_
 subst hv0 hXe
 refine W_hsub (H':=(b,.cells 3 (cap*1) (((idsAt L (e.lv*64+e.slot))).map (Value.int .i64)))::(b7,.cells 71 4 e.v)::(b5,.cells 408 5 (e.v++[Value.int .i64 ((tn:Nat):Int)]))::(b3,.cells 3 1 [.int .i64 id])::(bw,.cells 406 523 (whRow now sl bs bm turn))::(bm,.obj (mapO (Value.int .i64) l c))::((XS.set (e.lv*64+e.slot) []).flatten++H)) zH ?_
 refine W_anyC [(b3,.cells 3 1 [.int .i64 id]),(b7,.cells 71 4 e.v),(bw,.cells 406 523 (whRow now sl bs bm turn))] zk ?_
 refine WC_take 0 rfl zK zK zK rfl rfl (X_move rfl) rfl ?_
 refine WC_take 1 rfl zK zK zK rfl rfl (X_fieldAddr rfl fld71_0 zd) rfl ?_
 refine WC_take 2 rfl zK zK zK rfl rfl (X_load (v:=.int .i64 (e.lv:Int)) rfl ty3 rfl (Cell.own (b:=b7) zM rfl)) rfl ?_
 refine WC_take 3 rfl zK zK zK rfl rfl (X_fieldAddr rfl fld71_1 zd) rfl ?_
 refine WC_take 4 rfl zK zK zK rfl rfl (X_load (v:=.int .i64 (e.slot:Int)) rfl ty3 rfl (Cell.own (b:=b7) zM rfl)) rfl ?_
 refine WC_take 5 rfl zK zK zK rfl rfl (X_nilCheck rfl) rfl ?_
 refine WC_take 6 rfl zK zK zK rfl rfl (X_fieldAddr rfl fld406_1 zd) rfl ?_
 refine WC_take 7 rfl zK zK zK rfl rfl (X_indexAddrA (j:=e.lv) rfl rfl ty402 ty401 rfl hsp.1 (at_:=1+e.lv*64) zO) rfl ?_
 refine WC_take 8 rfl zK zK zK rfl rfl (X_indexAddrA (j:=e.slot) rfl rfl ty401 ty63 rfl hsp.2 (at_:=1+(e.lv*64+e.slot)) zO) rfl ?_
 refine WC_take 9 rfl zK zK zK rfl rfl (X_load (v:=.slice (some ⟨b,0,none⟩) (idsAt L (e.lv*64+e.slot)).length cap) rfl ty63 rfl (Cell.own (b:=bw) zM (wh_sl hok hsl))) rfl ?_
 refine WC_take 10 rfl zK zK zK rfl rfl (X_makeFunc .nil (.cons rfl .nil)) rfl ?_
 refine WC_one 11 zH zK rfl rfl ?_
 refine W_call (.cons rfl (.cons rfl .nil)) Tryz.call406 rfl ((delete_L (l:=(idsAt L (e.lv*64+e.slot))) (id:=id) (bd:=b3) (b:=b) (tot:=cap*1) (cap:=cap) (H:=(b7,.cells 71 4 e.v)::(b5,.cells 408 5 (e.v++[Value.int .i64 ((tn:Nat):Int)]))::(b3,.cells 3 1 [.int .i64 id])::(bw,.cells 406 523 (whRow now sl bs bm turn))::(bm,.obj (mapO (Value.int .i64) l c))::((XS.set (e.lv*64+e.slot) []).flatten++H)) zO hcap zM).hsub zH) ?_
 rintro v H' ⟨rfl,rfl⟩
 refine W_nil ?_
 refine WC_goal ?_
 refine WC_take 12 rfl zK zK zK rfl rfl (X_assign rfl) rfl ?_
 refine WC_done zH zK ?_
 refine W_seq ?_
 refine W_anyS [(b7,.cells 71 4 e.v),(bw,.cells 406 523 (whRow now sl bs bm turn))] 10 zk ?_
 refine WS_take 0 rfl rfl zK zK zK zK rfl rfl (X_move rfl) rfl ?_
 refine WS_take 1 rfl rfl zK zK zK zK rfl rfl (X_fieldAddr rfl fld71_0 zd) rfl ?_
 refine WS_take 2 rfl rfl zK zK zK zK rfl rfl (X_load (v:=.int .i64 (e.lv:Int)) rfl ty3 rfl (Cell.own (b:=b7) zM rfl)) rfl ?_
 refine WS_take 3 rfl rfl zK zK zK zK rfl rfl (X_fieldAddr rfl fld71_1 zd) rfl ?_
 refine WS_take 4 rfl rfl zK zK zK zK rfl rfl (X_load (v:=.int .i64 (e.slot:Int)) rfl ty3 rfl (Cell.own (b:=b7) zM rfl)) rfl ?_
 refine WS_take 5 rfl rfl zK zK zK zK rfl rfl (X_move rfl) rfl ?_
 refine WS_takeP 6 (l':=#[true,true,true,true,true,true,true,false,false,false,false]) rfl rfl zK zK zK rfl zK (X_nilCheck rfl) rfl ?_
 refine WS_takeP 7 (l':=#[true,true,true,true,true,true,true,true,false,false,false]) rfl rfl zK zK zK rfl zK (X_fieldAddr rfl fld406_1 zd) rfl ?_
 refine WS_takeP 8 (l':=#[true,true,true,true,true,true,true,true,true,false,false]) rfl rfl zK zK zK rfl zK (X_indexAddrA (j:=e.lv) rfl rfl ty402 ty401 rfl hsp.1 (at_:=1+e.lv*64) zO) rfl ?_
 refine WS_take 9 rfl rfl zK zK zK zK rfl rfl (X_indexAddrA (j:=e.slot) rfl rfl ty401 ty63 rfl hsp.2 (at_:=1+(e.lv*64+e.slot)) zO) rfl ?_
 refine WS_last (l':=#[true,true,true,true,true,true,true,true,true,true,true]) zH zK rfl zK ?_
 refine W_store (l':=whRow now (sl.set (e.lv*64+e.slot) (Value.slice (some ⟨b,0,none⟩) (del1 (idsAt L (e.lv*64+e.slot)) id).length cap)) bs bm turn) rfl rfl ty63 rfl rfl (b:=bw) zM (by rw [wh_len hok,Nat.blt_eq]; omega) (wh_setSl hok (by omega)) zU ?_
 refine W_nil ?_
 refine WC_goal ?_
 refine WC_done (.nil _) zK ?_
 refine W_seq (W_sr (W_move rfl rfl (W_len rfl ty63 rfl rfl ?_)))
 refine W_bin rfl rfl b_eql rfl ?_
 refine W_nil ?_
 refine W_condPS (p:=(del1 (idsAt L (e.lv*64+e.slot)) id).length=0) rfl (by rw [decide_eq_true_eq]; omega) (fun q0=>?_) (fun q0=>?_)
 ·skip
  refine W_anyS [(b7,.cells 71 4 e.v),(bw,.cells 406 523 (whRow now (sl.set (e.lv*64+e.slot) (Value.slice (some ⟨b,0,none⟩) (del1 (idsAt L (e.lv*64+e.slot)) id).length cap)) bs bm turn))] 17 zk ?_
  refine WS_take 0 rfl rfl zK zK zK zK rfl rfl (X_move rfl) rfl ?_
  refine WS_take 1 rfl rfl zK zK zK zK rfl rfl (X_fieldAddr rfl fld71_0 zd) rfl ?_
  refine WS_take 2 rfl rfl zK zK zK zK rfl rfl (X_load (v:=.int .i64 (e.lv:Int)) rfl ty3 rfl (Cell.own (b:=b7) zM rfl)) rfl ?_
  refine WS_take 3 rfl rfl zK zK zK zK rfl rfl (X_move rfl) rfl ?_
  refine WS_take 4 rfl rfl zK zK zK zK rfl rfl (X_fieldAddr rfl fld71_0 zd) rfl ?_
  refine WS_take 5 rfl rfl zK zK zK zK rfl rfl (X_load (v:=.int .i64 (e.lv:Int)) rfl ty3 rfl (Cell.own (b:=b7) zM rfl)) rfl ?_
  refine WS_take 6 rfl rfl zK zK zK zK rfl rfl (X_nilCheck rfl) rfl ?_
  refine WS_take 7 rfl rfl zK zK zK zK rfl rfl (X_fieldAddr rfl fld406_2 zd) rfl ?_
  refine WS_take 8 rfl rfl zK zK zK zK rfl rfl (X_indexAddrA (j:=e.lv) rfl rfl ty403 ty247 rfl hsp.1 (at_:=513+e.lv) zO) rfl ?_
  refine WS_take 9 rfl rfl zK zK zK zK rfl rfl (X_load (v:=.int .u64 (z:Int)) rfl ty247 rfl (Cell.own (b:=bw) zM (wh_bs (hok2 _) hz))) rfl ?_
  refine WS_take 10 rfl rfl zK zK zK zK rfl rfl (X_fieldAddr rfl fld71_1 zd) rfl ?_
  refine WS_take 11 rfl rfl zK zK zK zK rfl rfl (X_load (v:=.int .i64 (e.slot:Int)) rfl ty3 rfl (Cell.own (b:=b7) zM rfl)) rfl ?_
  refine WS_takeP 14 (l':=#[true,true,true,true,true,true,true,true,true,true,true,true,false,false,true,false,false,false]) rfl rfl zK zK zK rfl zK (X_nilCheck rfl) rfl ?_
  refine WS_takeP 15 (l':=#[true,true,true,true,true,true,true,true,true,true,true,true,false,false,true,true,false,false]) rfl rfl zK zK zK rfl zK (X_fieldAddr rfl fld406_2 zd) rfl ?_
  refine WS_one 12 zH rfl zK rfl rfl ?_
  refine W_buildSlice ty63 ty3 (.cons rfl rfl rfl rfl rfl .nil) rfl rfl rfl rfl rfl rfl rfl (fun b59=>?_)
  refine W_nil ?_
  refine WS_goal ?_
  refine WS_one 13 zH rfl zK rfl rfl ?_
  refine W_callq (.cons rfl (.cons rfl .nil)) Tryz.call141 rfl (out_q (l:=[(e.slot:Int)]) hz2 (show 1≤4611686018427387904 by decide) (Holds.own (b:=b59) zM)) ?_
  refine W_nil ?_
  refine WS_goal ?_
  refine WS_take 16 rfl rfl zK zK zK zK rfl rfl (X_indexAddrA (j:=e.lv) rfl rfl ty403 ty247 rfl hsp.1 (at_:=513+e.lv) zO) rfl ?_
  refine WS_last (l':=#[true,true,true,true,true,true,true,true,true,true,true,true,true,true,true,true,true,true]) zH zK rfl zK ?_
  refine W_store (l':=whRow now (sl.set (e.lv*64+e.slot) (Value.slice (some ⟨b,0,none⟩) (del1 (idsAt L (e.lv*64+e.slot)) id).length cap)) (bs.set e.lv (outL z [(e.slot:Int)])) bm turn) rfl rfl ty247 rfl rfl (b:=bw) zM (by rw [wh_len (hok2 _),Nat.blt_eq]; omega) (wh_setBs (hok2 _) hsp.1) zU ?_
  refine W_nil ?_
  refine WC_goal ?_
  refine WC_done (.nil _) zK ?_
  refine W_seq ?_
  refine W_anyC [(b3,.cells 3 1 [.int .i64 id]),(bw,.cells 406 523 (whRow now (sl.set (e.lv*64+e.slot) (Value.slice (some ⟨b,0,none⟩) (del1 (idsAt L (e.lv*64+e.slot)) id).length cap)) (bs.set e.lv (outL z [(e.slot:Int)])) bm turn))] zk ?_
  refine WC_take 0 rfl zK zK zK rfl rfl (X_move rfl) rfl ?_
  refine WC_take 1 rfl zK zK zK rfl rfl (X_nilCheck rfl) rfl ?_
  refine WC_take 2 rfl zK zK zK rfl rfl (X_fieldAddr rfl fld406_3 zd) rfl ?_
  refine WC_take 3 rfl zK zK zK rfl rfl (X_load (v:=.map (some bm)) rfl ty404 rfl (Cell.own (b:=bw) zM (wh_map (hok3 _)))) rfl ?_
  refine WC_take 4 rfl zK zK zK rfl rfl (X_load (v:=.int .i64 id) rfl ty3 rfl (Cell.own (b:=b3) zM rfl)) rfl ?_
  refine WC_one 5 zH zK rfl rfl ?_
  refine W_delete (a:=id) (b:=bm) rfl rfl keyI ty404 hmap zU rfl ?_
  refine W_nil ?_
  refine WC_goal ?_
  refine WC_done zH zK ?_
  refine W_sr (W_assign rfl rfl (W_nil (W_ret1m (H2:=(bw,.cells 406 523 (whRow now (sl.set (e.lv*64+e.slot) (Value.slice (some ⟨b,0,none⟩) (del1 (idsAt L (e.lv*64+e.slot)) id).length cap)) (bs.set e.lv (outL z [(e.slot:Int)])) bm turn))::(bm,.obj (mapO (Value.int .i64) (mDel l id) c))::((b,.cells 3 (cap*1) (((del1 (idsAt L (e.lv*64+e.slot)) id)).map (Value.int .i64)))::((XS.set (e.lv*64+e.slot) []).flatten++H))) Tryz.results357 rfl (.nil _) zH ?_)))
  exact ⟨b,cap,rfl,by omega,hmax,by rw [if_pos q0]⟩
 ·skip
  refine W_skip (W_seq ?_)
  refine W_anyC [(b3,.cells 3 1 [.int .i64 id]),(bw,.cells 406 523 (whRow now (sl.set (e.lv*64+e.slot) (Value.slice (some ⟨b,0,none⟩) (del1 (idsAt L (e.lv*64+e.slot)) id).length cap)) bs bm turn))] zk ?_
  refine WC_take 0 rfl zK zK zK rfl rfl (X_move rfl) rfl ?_
  refine WC_take 1 rfl zK zK zK rfl rfl (X_nilCheck rfl) rfl ?_
  refine WC_take 2 rfl zK zK zK rfl rfl (X_fieldAddr rfl fld406_3 zd) rfl ?_
  refine WC_take 3 rfl zK zK zK rfl rfl (X_load (v:=.map (some bm)) rfl ty404 rfl (Cell.own (b:=bw) zM (wh_map (hok2 _)))) rfl ?_
  refine WC_take 4 rfl zK zK zK rfl rfl (X_load (v:=.int .i64 id) rfl ty3 rfl (Cell.own (b:=b3) zM rfl)) rfl ?_
  refine WC_one 5 zH zK rfl rfl ?_
  refine W_delete (a:=id) (b:=bm) rfl rfl keyI ty404 hmap zU rfl ?_
  refine W_nil ?_
  refine WC_goal ?_
  refine WC_done zH zK ?_
  refine W_sr (W_assign rfl rfl (W_nil (W_ret1m (H2:=(bw,.cells 406 523 (whRow now (sl.set (e.lv*64+e.slot) (Value.slice (some ⟨b,0,none⟩) (del1 (idsAt L (e.lv*64+e.slot)) id).length cap)) bs bm turn))::(bm,.obj (mapO (Value.int .i64) (mDel l id) c))::((b,.cells 3 (cap*1) (((del1 (idsAt L (e.lv*64+e.slot)) id)).map (Value.int .i64)))::((XS.set (e.lv*64+e.slot) []).flatten++H))) Tryz.results357 rfl (.nil _) zH ?_)))
  exact ⟨b,cap,rfl,by omega,hmax,by rw [if_neg q0]⟩
theorem LCalls.sub {P:Program} {w0:World} {f:FuncId} {args:Array Value} {H:Heap} {R R':Value→Heap→Prop} (h:LCalls P w0 f args H R) (hr:∀ v H',R v H'→∃ H2,HSub H' H2∧R' v H2):LCalls P w0 f args H R' :=
 fun w hs=>(h w hs).mono fun _ _ ⟨v,H',e,r,s⟩=>by
  obtain ⟨H2,h1,h2⟩:=hr _ _ r
  exact ⟨v,H2,e,h2,s.hsub h1⟩
theorem delT_out {L:List Tm} {id:Int} (h:id ∉ L.map (·.id)):delT L id=L:=by
 unfold delT
 rw [List.filter_eq_self]
 exact fun t ht=>decide_eq_true (fun e=>h (e ▸ List.mem_map_of_mem ht))
def heldB (L:List Tm) (id:Int):Bool:=L.any (fun t=>decide (t.id=id))
theorem heldB_iff {L:List Tm} {id:Int}:heldB L id=true↔id∈L.map (·.id):=by
 unfold heldB
 rw [List.any_eq_true,List.mem_map]
 exact ⟨fun ⟨t,h,e⟩=>⟨t,h,of_decide_eq_true e⟩,fun ⟨t,h,e⟩=>⟨t,h,decide_eq_true e⟩⟩
theorem del_L {w0:World} {H HW:Heap} {bw now turn:Nat} {L:List Tm} {id:Int} (hW:WheelH bw now L turn HW) :
  LCalls Tryz.prog w0 357 #[.pointer (some ⟨bw,0,none⟩),.int .i64 id] (HW++H) (fun v H'=>∃ HW',WheelH bw now (delT L id) turn HW'∧v=.bool (heldB L id)∧H'=HW'++H):=by
 cases hW with
 | @mk bm c sl XS bs l h =>
  by_cases hin:id∈L.map (·.id)
  ·obtain ⟨t,ht,rfl⟩:=List.mem_map.1 hin
   obtain ⟨hv,hh⟩:=h.hit ht
   have hs:=h.spot t ht
   obtain ⟨v0,X,hsl,hX,hO⟩:=h.own (t.s.lv*64+t.s.slot) zO
   obtain ⟨z,hz,hz2,_⟩:=h.busy t.s.lv hs.1
   have hlen:=Nat.le_trans (idsAt_len L (t.s.lv*64+t.s.slot)) h.len
   have hpos:0<(idsAt L (t.s.lv*64+t.s.slot)).length:=List.length_pos_of_mem (idsAt_mem.2 ⟨t,ht,rfl,rfl⟩)
   have hcell:∀ (b cap:Nat),(del1 (idsAt L t.key) t.id).length≤cap→cap≤maxLen→OwnS 3 1 (.slice (some ⟨b,0,none⟩) (del1 (idsAt L t.key) t.id).length cap) (del1 (idsAt L t.key) t.id).length ((del1 (idsAt L t.key) t.id).map (Value.int .i64)) [(b,.cells 3 (cap*1) ((del1 (idsAt L t.key) t.id).map (Value.int .i64)))]:=fun b cap h1 h2=>.own (by rw [List.length_map,Nat.mul_one]) h1 h2
   refine LCalls.sub (del_at (H:=H) h.row h.map hv hh hs hz hz2 hlen hpos hsl hX hO) ?_
   rintro v H' ⟨b,cap,rfl,hcap,hmax,rfl⟩
   refine ⟨_,?_,_,.mk (bm:=bm) (h.del ht (hcell b cap hcap hmax) hz rfl),by rw [heldB_iff.2 hin],rfl⟩
   exact .cons (.here _) (.cons (.here _) (flat_in (B:=[_]) (by rw [h.xs]; omega)))
  ·obtain ⟨hv,hh⟩:=h.miss hin
   refine (del_miss (H:=XS.flatten++H) h.row hv hh).mono ?_
   rintro v H' ⟨rfl,rfl⟩
   refine ⟨_,by rw [delT_out hin]; exact .mk (bm:=bm) h,?_,rfl⟩
   cases hb:heldB L id with
   | false=>rfl
   | true=>exact absurd (heldB_iff.1 hb) hin
def delsT (L:List Tm) (l:List Int):List Tm × Nat:=l.foldl (fun s id=>(delT s.1 id,s.2+if heldB s.1 id=true then 1 else 0)) (L,0)
theorem delsT_at {L:List Tm} {l:List Int} {i:Nat} {x:Int} (h:l[i]?=some x):delsT L (l.take (i+1))=(delT (delsT L (l.take i)).1 x,(delsT L (l.take i)).2+if heldB (delsT L (l.take i)).1 x=true then 1 else 0):=by
 unfold delsT
 rw [takeAt h,List.foldl_append]; rfl
theorem delsT_le (L:List Tm) (l:List Int):∀ i,i≤l.length→(delsT L (l.take i)).2≤i
 | 0,_=>by simp [delsT]
 | i+1,h=>by
  obtain ⟨x,hx⟩:∃ x,l[i]?=some x:=⟨_,List.getElem?_eq_getElem zO⟩
  have:=delsT_le L l i zO
  rw [delsT_at hx]
  dsimp only
  split <;> omega
theorem Del_L {w0:World} {H:Heap} {HW:Heap} {bw now turn cap:Nat} {L:List Tm} {l:List Int} {ad:Option Addr} (hW:WheelH bw now L turn HW) (hn:l.length≤4611686018427387904) (hrow:Holds w0 H ad (l.map (Value.int .i64))) :LCalls Tryz.prog w0 264 #[.pointer (some ⟨bw,0,none⟩),.slice ad l.length cap] (HW++H) (fun v H'=>∃ HW',WheelH bw now (delsT L l).1 turn HW'∧v=.int .i64 ((delsT L l).2:Int)∧H'=HW'++H):=by
 refine L_enter (l:=[.pointer (some ⟨bw,0,none⟩),.slice ad l.length cap]) Tryz.func264 rfl Tryz.ntmps264 rfl rfl ?_
 refine W_sr (W_assign rfl rfl (W_nil (W_sr (W_assign rfl rfl (W_nil (W_seq (W_sr (W_move rfl rfl (W_len rfl ty63 rfl rfl ?_)))))))))
 refine W_move rfl rfl (W_nil (W_block ?_))
 refine W_loopC (X:=(Nat × Heap)) [(0,_),(8,_),(9,_)] (fun (x:(Nat × Heap))=>[(5,.int .i64 ((delsT L (l.take x.1)).2:Int)),(10,.int .i64 (x.1:Int))]) (fun _=>_) (fun (x:(Nat × Heap))=>x.2++H) (fun (x:(Nat × Heap))=>x.1≤l.length∧WheelH bw now (delsT L (l.take x.1)).1 turn x.2) (fun (x:(Nat × Heap))=>l.length-x.1) (0,HW) ⟨Nat.zero_le _,hW⟩ (sub_cons rfl (sub_cons rfl (sub_cons rfl (sub_nil _)))) (sub_cons rfl (sub_cons rfl (sub_nil _))) rfl (.refl _) ?_
 rintro ⟨i,HWi⟩ ⟨hi,hWi⟩
 dsimp only at hi hWi ⊢
 simp only [List.cons_append,List.nil_append]
 refine W_sr (W_bin rfl rfl b_lss rfl ?_)
 refine W_nil (W_seq ?_)
 refine W_condPS (p:=(i:Int)<(l.length:Int)) rfl (by simp) (fun q0=>?_) (fun q0=>?_)
 ·skip
  refine W_skip (W_seq (W_block (W_sr ?_)))
  obtain ⟨x,hx⟩:∃ x,l[i]?=some x:=⟨_,List.getElem?_eq_getElem zO⟩
  obtain ⟨q0,p0,rfl,hc⟩:=hrow.at (i:=i) (v:=.int .i64 x) (by rw [List.getElem?_map,hx]; rfl)
  have hat:=delsT_at (L:=L) hx
  have hle:=delsT_le L l i zO
  refine W_indexAddr (j:=i) rfl rfl ty63 ty3 rfl zO rfl rfl ?_
  refine W_load (v:=.int .i64 x) rfl ty3 rfl (by rw [Nat.mul_one (i)]; exact hc.up zH) rfl ?_
  refine W_assign rfl rfl (W_nil (W_sr (W_move rfl rfl ?_)))
  refine W_x (X_ptrNotNil rfl rfl ty276) (fun _ h=>by cases h) rfl ?_
  refine W_move rfl rfl (W_gyes rfl rfl (W_move rfl rfl (W_gyes rfl rfl (W_move rfl rfl (W_gyes rfl rfl (W_call (.cons rfl (.cons rfl .nil)) Tryz.call357 rfl (del_L (id:=x) hWi) ?_))))))
  rintro v H' ⟨HW',hW',rfl,rfl⟩
  rcases hb:heldB (delsT L (l.take i)).1 x with _ | _
  ·skip
   have hn2:(delsT L (l.take i)).2=(delsT L (l.take (i+1))).2:=by rw [hat,hb]; rfl
   rw [hn2]
   first | refine W_pickt rfl rfl rfl ?_ | refine W_pickf rfl rfl rfl ?_
   refine W_nil (W_condF rfl rfl (W_skip (W_blk (W_region ?_))))
   refine W_bin rfl rfl (b_add (m:=((i+1:Nat):Int)) (by rw [i64w (by omega)]; omega)) rfl ?_
   refine W_move rfl rfl (W_nil ?_)
   refine W_again (i+1,HW') ⟨by show i+1≤l.length; omega,by show WheelH bw now (delsT L (l.take (i+1))).1 turn HW'; rw [hat]; exact hW'⟩ (by show l.length-(i+1)<l.length-i; omega) (sub_cons rfl (sub_cons rfl (sub_cons rfl (sub_cons rfl (sub_cons rfl (sub_nil _)))))) rfl (.refl _)
  ·skip
   have hn2:(delsT L (l.take i)).2+1=(delsT L (l.take (i+1))).2:=by rw [hat,hb]; rfl
   first | refine W_pickt rfl rfl rfl ?_ | refine W_pickf rfl rfl rfl ?_
   refine W_nil (W_condT rfl rfl (W_region (W_move rfl rfl ?_)))
   refine W_bin rfl rfl (b_add (m:=((delsT L (l.take (i+1))).2:Int)) (by rw [i64w (by omega)]; omega)) rfl ?_
   refine W_assign rfl rfl (W_nil (W_blk (W_region ?_)))
   refine W_bin rfl rfl (b_add (m:=((i+1:Nat):Int)) (by rw [i64w (by omega)]; omega)) rfl ?_
   refine W_move rfl rfl (W_nil ?_)
   refine W_again (i+1,HW') ⟨by show i+1≤l.length; omega,by show WheelH bw now (delsT L (l.take (i+1))).1 turn HW'; rw [hat]; exact hW'⟩ (by show l.length-(i+1)<l.length-i; omega) (sub_cons rfl (sub_cons rfl (sub_cons rfl (sub_cons rfl (sub_cons rfl (sub_nil _)))))) rfl (.refl _)
 ·skip
  refine W_exit rfl ?_
  refine W_sr (W_move rfl rfl (W_assign rfl rfl (W_nil (W_ret1m Tryz.results264 rfl (.nil _) (.refl _) ?_))))
  obtain rfl:i=l.length:=by omega
  rw [List.take_length] at hWi ⊢
  exact ⟨HWi,hWi,rfl,rfl⟩
open Go.Proofs
theorem OwnS.holds {w0:World} {e:TypeId} {s:Nat} {ad:Option Addr} {n cap:Nat} {xs:List Value} {HB H:Heap} (h:OwnS e s (.slice ad n cap) n xs HB) (hs:∀ p∈HB,p∈H):Holds w0 H ad xs:=by
 generalize hv:Value.slice ad n cap=v at h
 cases h with
 | nil=>exact Holds.nil
 | own _ _ _ =>
  obtain ⟨rfl,_⟩:ad=_∧True:=by simp at hv; exact ⟨hv.1,trivial⟩
  exact Holds.own (hs _ List.mem_cons_self)
section
variable {now turn c:Nat} {L:List Tm} {sl:List Value} {XS:List Heap} {bs:List Nat} {l:Ents Int}
end
def spotOf (L:List Tm) (id:Int):Spot:=match L.find? (fun t=>decide (t.id=id)) with
 | some t=>t.s
 | none=>zSpot
theorem spotOf_in {L:List Tm} (h:(L.map (·.id)).Nodup) {t:Tm} (ht:t∈L):spotOf L t.id=t.s:=by
 unfold spotOf
 cases hf:L.find? (fun u=>decide (u.id=t.id)) with
 | none=>exact absurd (decide_eq_true rfl) (List.find?_eq_none.1 hf t ht)
 | some u =>
  have h1:=List.find?_some hf
  obtain rfl:u=t:=tm_uniq h (List.mem_of_find?_eq_some hf) ht (of_decide_eq_true h1)
  rfl
theorem spotOf_out {L:List Tm} {id:Int} (h:id ∉ L.map (·.id)):spotOf L id=zSpot:=by
 unfold spotOf
 cases hf:L.find? (fun u=>decide (u.id=id)) with
 | none=>rfl
 | some u =>
  have h1:=List.find?_some hf
  have h2:u.id=id:=of_decide_eq_true h1
  exact absurd (h2 ▸ List.mem_map_of_mem (List.mem_of_find?_eq_some hf)) h
def ahead (a b:Tm):Prop:=a.s.due<b.s.due∨(a.s.due=b.s.due∧a.turn<b.turn)
open Go.Proofs
theorem own_or {e:TypeId} {s:Nat} {v:Value} {n:Nat} {xs:List Value} {HB:Heap} (h:OwnS e s v n xs HB):(v=.slice none 0 0∧n=0∧xs=[]∧HB=[])∨∃ b cap,v=.slice (some ⟨b,0,none⟩) n cap∧HB=[(b,.cells e (cap*s) xs)]∧n≤cap∧cap≤maxLen:=by
 cases h with
 | nil=>exact .inl ⟨rfl,rfl,rfl,rfl⟩
 | own h1 h2 h3=>exact .inr ⟨_,_,rfl,rfl,h2,h3⟩
def sortI (l:List Int):List Int:=l.mergeSort fun x y=>decide (x≤y)
theorem sortI_perm (l:List Int):(sortI l).Perm l:=List.mergeSort_perm _ _
theorem sortI_asc {l:List Int} (hn:l.Nodup):(sortI l).Pairwise (· < ·):=by
 have h1:(sortI l).Pairwise (fun x y=>decide (x≤y)=true):=List.pairwise_mergeSort (fun a b c h1 h2=>by simp only [decide_eq_true_eq] at *; omega) (fun a b=>by simp only [Bool.or_eq_true,decide_eq_true_eq]; omega) l
 have h2:(sortI l).Nodup:=(sortI_perm l).nodup_iff.2 hn
 have h3:=List.pairwise_and_iff.2 ⟨h1,h2⟩
 refine h3.imp ?_
 rintro a b ⟨h4,h5⟩
 have:=of_decide_eq_true h4
 have h6:a≠b:=h5
 omega
open Go.Proofs in
theorem sortI_L {w0:World} {H:Heap} {b tot cap:Nat} {d:List Int} (hd:d.length<4611686018427387904) :
  LCalls Tryz.prog w0 174 #[.slice (some ⟨b,0,none⟩) d.length cap] ((b,.cells 3 tot (d.map (Value.int .i64)))::H) (fun v H'=>v=.tuple #[]∧H'=(b,.cells 3 tot ((sortI d).map (Value.int .i64)))::H):=fun w hs=>by
 have hlt:b<w.heap.size:=(hs.own _ List.mem_cons_self).2.lt
 have hc:=Tryz.slices_Sort_int b 0 cap d w (holds_row (d:=d) (enc:=(Value.int .i64)) hs) hlt hd
 refine (callsIn_wide.2 hc).mono ?_
 rintro en w' ⟨rfl,n,os,rfl⟩
 refine ⟨_,_,rfl,⟨rfl,rfl⟩,?_⟩
 have hS:Sat w0 ((b,.cells 3 tot (((sortI d).toArray).toList.map (Value.int .i64)))::H) (sortWorld (Value.int .i64) w b 0 n (sortI d).toArray os):=sat_sortWorld hs (by simp [(sortI_perm d).length_eq])
 exact hS
theorem asc_int:∀ {a b:List Int},a.Perm b→a.Pairwise (· < ·)→b.Pairwise (· < ·)→a=b
 | [],b,hp,_,_=>(List.Perm.nil_eq hp)
 | x::a,b,hp,ha,hb=>by
  cases b with
  | nil=>exact absurd hp.length_eq (by simp)
  | cons y b =>
   have ha':=List.pairwise_cons.1 ha
   have hb':=List.pairwise_cons.1 hb
   have hxy:x=y:=by
    rcases List.mem_cons.1 (hp.mem_iff.1 List.mem_cons_self) with h | h
    ·exact h
    ·rcases List.mem_cons.1 (hp.mem_iff.2 List.mem_cons_self) with h' | h'
     ·exact h'.symm
     ·have:=hb'.1 x h; have:=ha'.1 y h'; omega
   subst hxy
   rw [asc_int (List.Perm.cons_inv hp) ha'.2 hb'.2]
instance:DecidableEq Tm:=fun a b=>by
 cases a; cases b
 rename_i i s t i2 s2 t2
 exact if h:i=i2∧s=s2∧t=t2 then isTrue (by obtain ⟨rfl,rfl,rfl⟩:=h; rfl) else isFalse (fun e=>h (by cases e; exact ⟨rfl,rfl,rfl⟩))
instance (a b:Tm):Decidable (ahead a b):=inferInstanceAs (Decidable (_∨_))
theorem same_q {w0:World} {H:Heap} {l r:List Int} {a1 a2:Option Addr} {c1 c2:Nat} (hl:Holds w0 H a1 (l.map (Value.int .i64))) (hr:Holds w0 H a2 (r.map (Value.int .i64))) (hn:l.length≤4611686018427387904) :PureAt Tryz.prog w0 H 46 [.slice a1 l.length c1,.slice a2 r.length c2] (.bool (decide (l=r))):=by
 refine L_enter Tryz.func46 rfl Tryz.ntmps46 rfl rfl ?_
 refine W_sr (W_assign rfl rfl (W_nil (W_seq (W_sr (W_move rfl rfl (W_len rfl ty63 rfl rfl ?_))))))
 refine W_move rfl rfl (W_len rfl ty63 rfl rfl ?_)
 refine W_bin rfl rfl b_neq rfl ?_
 refine W_nil ?_
 refine W_condPS (p:=(l.length:Int)≠(r.length:Int)) rfl (by simp) (fun q0=>?_) (fun q0=>?_)
 ·skip
  refine W_sr (W_assign rfl rfl (W_nil (W_ret1m (H2:=H) Tryz.results46 rfl (.nil _) zH ?_)))
  exact ⟨by rw [decide_eq_false (fun e=>q0 (by rw [e]))],rfl⟩
 ·skip
  refine W_skip (W_seq (W_sr (W_assign rfl rfl (W_nil (W_block ?_)))))
  have hlen:l.length=r.length:=by omega
  refine W_loopC (X:=Nat) [(0,_),(1,_)] (fun (i:Nat)=>[(5,.int .i64 (i:Int))]) (fun _=>_) (fun (i:Nat)=>H) (fun (i:Nat)=>i≤l.length∧l.take i=r.take i) (fun (i:Nat)=>l.length-i) 0 ⟨Nat.zero_le _,rfl⟩ (sub_cons rfl (sub_cons rfl (sub_nil _))) (sub_cons rfl (sub_nil _)) rfl zH ?_
  rintro i ⟨hi,heq⟩
  simp only [List.cons_append,List.nil_append]
  refine W_seq (W_sr (W_move rfl rfl (W_move rfl rfl (W_len rfl ty63 rfl rfl ?_))))
  refine W_bin rfl rfl b_lss rfl ?_
  refine W_nil ?_
  refine W_condPS (p:=(i:Int)<(l.length:Int)) rfl (by simp) (fun q1=>?_) (fun q1=>?_)
  ·skip
   refine W_skip (W_seq (W_block (W_quietsr zk zK ?_)))
   obtain ⟨x,hx⟩:∃ x,l[i]?=some x:=⟨_,List.getElem?_eq_getElem zO⟩
   obtain ⟨q0,p0,rfl,hc⟩:=hl.at (i:=i) (v:=.int .i64 x) (by rw [List.getElem?_map,hx]; rfl)
   obtain ⟨y,hy⟩:∃ y,r[i]?=some y:=⟨_,List.getElem?_eq_getElem zO⟩
   obtain ⟨q1,p1,rfl,hc'⟩:=hr.at (i:=i) (v:=.int .i64 y) (by rw [List.getElem?_map,hy]; rfl)
   refine WQ_x (X_move rfl) rfl (WQ_x (X_move rfl) rfl (WQ_x (X_indexAddr (j:=i) rfl rfl ty63 ty3 rfl zO rfl) rfl ?_))
   refine WQ_x (X_load (v:=.int .i64 x) rfl ty3 rfl (by rw [Nat.mul_one]; exact hc.up zH)) rfl ?_
   refine WQ_x (X_move rfl) rfl (WQ_x (X_move rfl) rfl (WQ_x (X_indexAddr (j:=i) rfl rfl ty63 ty3 rfl zO rfl) rfl ?_))
   refine WQ_x (X_load (v:=.int .i64 y) rfl ty3 rfl (by rw [Nat.mul_one]; exact hc'.up zH)) rfl ?_
   refine WQ_x (X_bin rfl rfl b_neq) rfl ?_
   refine WQ_nil ?_
   refine W_condPS (p:=¬ x=y) rfl (by simp) (fun q2=>?_) (fun q2=>?_)
   ·skip
    refine W_sr (W_assign rfl rfl (W_nil (W_ret1m (H2:=H) Tryz.results46 rfl (.nil _) zH ?_)))
    exact ⟨by rw [decide_eq_false (fun e=>q2 (by rw [e,hy] at hx; exact (Option.some.inj hx).symm))],rfl⟩
   ·skip
    refine W_skip (W_blk (W_region (W_move rfl rfl (W_bin rfl rfl (b_add (m:=((i+1:Nat):Int)) ((i64w zO).trans zO)) rfl ?_))))
    refine W_assign rfl rfl (W_nil ?_)
    refine W_again (i+1) ⟨by omega,by rw [takeAt hx,takeAt hy,heq,Classical.not_not.1 q2]⟩ (by omega) (sub_cons rfl (sub_cons rfl (sub_cons rfl (sub_nil _)))) rfl zH
  ·skip
   refine W_exit rfl ?_
   refine W_sr (W_assign rfl rfl (W_nil (W_ret1m (H2:=H) Tryz.results46 rfl (.nil _) zH ?_)))
   obtain rfl:i=l.length:=by omega
   exact ⟨by rw [decide_eq_true (by rwa [List.take_length,hlen,List.take_length] at heq)],rfl⟩
structure Wl where
 bw:Nat
 now:Nat
 L:List Tm
 turn:Nat
abbrev Wl.p (w:Wl):Value:=.pointer (some ⟨w.bw,0,none⟩)
inductive BankH (bb:Nat) (Ws:List Wl):Heap→Prop
 | mk {v:Value} {XS:Heap} {HWs:List Heap} (hv:OwnS 276 1 v Ws.length (Ws.map Wl.p) XS) (hl:HWs.length=Ws.length) (hw:∀ (k:Nat) w HW,Ws[k]?=some w→HWs[k]?=some HW→WheelH w.bw w.now w.L w.turn HW):BankH bb Ws ((bb,.cells 275 1 [v])::(XS++HWs.flatten))
theorem set_same {α:Type} {l:List α} {k:Nat} {x:α} (h:l[k]?=some x):l.set k x=l:=by
 apply List.ext_getElem?
 intro i
 by_cases e:k=i
 ·subst e; rw [List.getElem?_set_self (List.getElem?_eq_some_iff.1 h).1,h]
 ·rw [List.getElem?_set_ne e]
theorem BankH.at {bb k:Nat} {Ws:List Wl} {HB:Heap} {w:Wl} (h:BankH bb Ws HB) (hk:Ws[k]?=some w):∃ HW HR,WheelH w.bw w.now w.L w.turn HW∧(∀ H,HSub (HB++H) (HW++(HR++H))) ∧
  ∀ w' HW',w'.bw=w.bw→WheelH w'.bw w'.now w'.L w'.turn HW'→∃ HB',BankH bb (Ws.set k w') HB'∧∀ H,HSub (HW'++(HR++H)) (HB'++H):=by
 cases h with
 | @mk v XS HWs hv hl hw =>
  have hkl:=(List.getElem?_eq_some_iff.1 hk).1
  obtain ⟨HW,hHW⟩:∃ HW,HWs[k]?=some HW:=⟨_,List.getElem?_eq_getElem zO⟩
  refine ⟨HW,(bb,.cells 275 1 [v])::(XS++(HWs.set k []).flatten),hw k w HW hk hHW,fun H=>?_,fun w' HW' e hw'=>?_⟩
  ·have h1:=((flat_take hHW).append_left ((bb,.cells 275 1 [v])::XS)).append_right H
   refine HSub.of_perm ?_
   rw [List.append_assoc,List.append_assoc] at h1
   show (((bb,Blk.cells 275 1 [v])::XS)++HWs.flatten++H).Perm _
   rw [List.append_assoc]
   refine h1.trans ?_
   rw [List.append_assoc]
   refine (List.perm_append_comm_assoc _ _ _).trans ?_
   show (HW++(((bb,Blk.cells 275 1 [v])::XS)++_)).Perm (HW++((((bb,Blk.cells 275 1 [v])::XS)++_)++H))
   rw [List.append_assoc]
  ·refine ⟨(bb,.cells 275 1 [v])::(XS++(HWs.set k HW').flatten),.mk ?_ (by rw [List.length_set,List.length_set,hl]) ?_,fun H=>?_⟩
   ·rw [List.length_set,List.map_set,set_same (by rw [List.getElem?_map,hk,show w'.p=w.p from by unfold Wl.p; rw [e]]; rfl)]; exact hv
   ·intro j u HU hj hU
    by_cases c:k=j
    ·subst c
     rw [List.getElem?_set_self hkl] at hj
     rw [List.getElem?_set_self (by omega)] at hU
     obtain rfl:=Option.some.inj hj
     obtain rfl:=Option.some.inj hU
     exact hw'
    ·rw [List.getElem?_set_ne c] at hj hU
     exact hw j u HU hj hU
   ·have h1:=((flat_put (B:=HW') (XS:=HWs) (k:=k) zO).append_left ((bb,.cells 275 1 [v])::XS)).append_right H
    refine HSub.of_perm (List.Perm.trans ?_ h1)
    show (HW'++((((bb,Blk.cells 275 1 [v])::XS)++_)++H)).Perm _
    rw [List.append_assoc,List.append_assoc,List.append_assoc]
    exact List.perm_append_comm_assoc _ _ _
theorem BankH.row {bb:Nat} {Ws:List Wl} {HB:Heap} (h:BankH bb Ws HB):∃ ad cap,(bb,Blk.cells 275 1 [.slice ad Ws.length cap])∈HB∧Ws.length≤cap∧∀ {w0:World} {H:Heap},(∀ p∈HB,p∈H)→Holds w0 H ad (Ws.map Wl.p):=by
 cases h with
 | @mk v XS HWs hv hl hw =>
  obtain ⟨ad,cap,rfl,h1,_⟩:=hv.shape
  exact ⟨ad,cap,List.mem_cons_self,h1,fun hm=>OwnS.holds hv (fun p hp=>hm p (List.mem_cons_of_mem _ (List.mem_append_left _ hp)))⟩
theorem CPUs_q {w0:World} {H:Heap} {HB:Heap} {bb:Nat} {Ws:List Wl} (hB:BankH bb Ws HB) (hm:∀ p∈HB,p∈H) :PureAt Tryz.prog w0 H 88 [.pointer (some ⟨bb,0,none⟩)] (.int .i64 (Ws.length:Int)):=by
 obtain ⟨ad,cap,hcell,hlc,hrow0⟩:=hB.row
 have hrow:Holds w0 H ad (Ws.map Wl.p):=hrow0 hm
 refine L_enter Tryz.func88 rfl Tryz.ntmps88 rfl rfl ?_
 refine W_sr (W_assign rfl rfl (W_nil (W_seq (W_sr (W_move rfl rfl ?_)))))
 refine W_x (X_ptrNil rfl rfl ty167) (fun _ h=>by cases h) rfl ?_
 refine W_nil (W_condF rfl rfl (W_skip (W_sr (W_move rfl rfl (W_nilCheck rfl rfl (W_fieldAddr rfl fld275_0 zd rfl ?_))))))
 refine W_load (v:=.slice ad Ws.length cap) rfl ty273 rfl (Cell.own (b:=bb) (hm _ hcell) rfl) rfl ?_
 refine W_len rfl ty273 rfl rfl ?_
 refine W_assign rfl rfl (W_nil (W_ret1m (H2:=H) Tryz.results88 rfl (.nil _) zH ?_))
 exact ⟨rfl,rfl⟩
structure NbS where
 i:Nat
 Ws:List Wl
 v:Value
 XS:Heap
 HWs:List Heap
def FreshW (now:Nat) (w:Wl):Prop:=w.now=now∧w.L=[]∧w.turn=0
theorem all_snoc {Ws:List Wl} {HWs:List Heap} {u:Wl} {HU:Heap} (hl:HWs.length=Ws.length) (hw:∀ (k:Nat) w HW,Ws[k]?=some w→HWs[k]?=some HW→WheelH w.bw w.now w.L w.turn HW) (hu:WheelH u.bw u.now u.L u.turn HU):∀ (k:Nat) w HW,(Ws++[u])[k]?=some w→(HWs++[HU])[k]?=some HW→WheelH w.bw w.now w.L w.turn HW:=fun k w HW h1 h2=>by
 by_cases c:k<Ws.length
 ·rw [List.getElem?_append_left c] at h1
  rw [List.getElem?_append_left (by omega)] at h2
  exact hw k w HW h1 h2
 ·rw [List.getElem?_append_right (by omega)] at h1 h2
  rw [hl] at h2
  cases hk:k-Ws.length with
  | zero =>
   rw [hk] at h1 h2
   obtain rfl:u=w:=by simpa using h1
   obtain rfl:HU=HW:=by simpa using h2
   exact hu
  | succ j=>rw [hk] at h1; simp at h1
theorem NewB_L {w0:World} {H:Heap} {n now:Nat} (hn:1≤n∧n≤64) :LCalls Tryz.prog w0 196 #[.int .i64 (n:Int),.int .u64 ((now:Nat):Int)] (H) (fun v H'=>∃ bb Ws HB,v=.tuple #[.pointer (some ⟨bb,0,none⟩),.int .i64 0]∧BankH bb Ws HB∧Ws.length=n∧(∀ w∈Ws,FreshW now w)∧H'=HB++H):=by
 refine L_enter (l:=[.int .i64 (n:Int),.int .u64 ((now:Nat):Int)]) Tryz.func196 rfl Tryz.ntmps196 rfl rfl ?_
 refine W_sr (W_assign rfl rfl (W_assign rfl rfl (W_nil (W_seq (W_sr (W_move rfl rfl (W_bin rfl rfl b_lss rfl ?_)))))))
 rw [decide_eq_false (by omega)]
 refine W_move rfl rfl (W_gyes rfl rfl (W_move rfl rfl (W_gyes rfl rfl (W_bin rfl rfl b_gtr rfl ?_))))
 rw [decide_eq_false (by omega)]
 first | refine W_pickt rfl rfl rfl ?_ | refine W_pickf rfl rfl rfl ?_
 refine W_nil (W_condF rfl rfl (W_skip (W_sr (W_build (l:=[.slice none 0 0]) ty275 pl275 .nil rfl rfl rfl ?_))))
 refine W_box (l:=[.slice none 0 0]) rfl rfl rfl (fun b14=>?_)
 refine W_assign rfl rfl (W_nil (W_seq (W_sr (W_move rfl rfl (W_move rfl rfl (W_nil (W_block ?_)))))))
 refine W_loopC (X:=NbS) [(1,_),(6,_),(15,_)] (fun (x:NbS)=>[(16,.int .i64 (x.i:Int))]) (fun _=>_) (fun (x:NbS)=>(b14,.cells 275 1 [x.v])::(x.XS++(x.HWs.flatten++H))) (fun (x:NbS)=>x.i≤n∧x.Ws.length=x.i∧OwnS 276 1 x.v x.Ws.length (x.Ws.map Wl.p) x.XS∧x.HWs.length=x.Ws.length∧(∀ (k:Nat) w HW,x.Ws[k]?=some w→x.HWs[k]?=some HW→WheelH w.bw w.now w.L w.turn HW)∧∀ w∈x.Ws,FreshW now w) (fun (x:NbS)=>n-x.i) ⟨0,[],.slice none 0 0,[],[]⟩ ⟨Nat.zero_le _,rfl,.nil,rfl,fun k w HW h=>(by cases h),fun w h=>(by cases h)⟩ (sub_cons rfl (sub_cons rfl (sub_cons rfl (sub_nil _)))) (sub_cons rfl (sub_nil _)) rfl (.refl _) ?_
 rintro ⟨i,Ws,v,XS,HWs⟩ ⟨hi,hlen,hv,hl,hw,hf⟩
 dsimp only at hi hlen hv hl hw hf ⊢
 simp only [List.cons_append,List.nil_append]
 refine W_sr (W_bin rfl rfl b_lss rfl ?_)
 refine W_nil (W_seq ?_)
 refine W_condPS (p:=(i:Int)<(n:Int)) rfl (by simp) (fun q0=>?_) (fun q0=>?_)
 ·skip
  refine W_skip (W_seq (W_block ?_))
  refine W_anyS [(b14,.cells 275 1 [v])] 11 zk ?_
  refine WS_take 0 rfl rfl zK zK zK zK rfl rfl (X_move rfl) rfl ?_
  refine WS_take 1 rfl rfl zK zK zK zK rfl rfl (X_move rfl) rfl ?_
  refine WS_take 2 rfl rfl zK zK zK zK rfl rfl (X_nilCheck rfl) rfl ?_
  refine WS_take 3 rfl rfl zK zK zK zK rfl rfl (X_fieldAddr rfl fld275_0 zd) rfl ?_
  refine WS_take 4 rfl rfl zK zK zK zK rfl rfl (X_load (v:=v) rfl ty273 rfl (Cell.own (b:=b14) zM rfl)) rfl ?_
  refine WS_take 5 rfl rfl zK zK zK zK rfl rfl (X_move rfl) rfl ?_
  refine WS_one 6 zH rfl zK rfl rfl ?_
  refine W_call (.cons rfl .nil) Tryz.call275 rfl (New_W (now:=now)) ?_
  rintro w2 H' ⟨bw,HW,rfl,hW,rfl⟩
  refine W_nil ?_
  refine WS_goal ?_
  refine WS_one 7 zH rfl zK rfl rfl ?_
  refine W_buildSlice (l:=[.pointer (some ⟨bw,0,none⟩)]) ty273 ty276 (.cons rfl rfl rfl rfl rfl .nil) rfl rfl rfl rfl rfl rfl rfl (fun b25=>?_)
  refine W_nil ?_
  refine WS_goal ?_
  refine WS_one 8 zH rfl zK rfl rfl ?_
  refine W_append (news:=[.pointer (some ⟨bw,0,none⟩)]) (m:=1) (HB:=XS) (H0:=(b25,.cells 276 1 [.pointer (some ⟨bw,0,none⟩)])::(HW++((b14,.cells 275 1 [v])::(HWs.flatten++H)))) rfl rfl ty273 ty276 rfl (by decide) hv rfl (Holds.own (b:=b25) zM) rfl (by simp only [maxLen]; omega) (by omega) zH rfl (fun v' X' hv'=>?_)
  refine W_nil ?_
  refine WS_goal ?_
  refine WS_takeP 9 (l':=#[true,true,true,true,true,true,true,true,true,true,false,false]) rfl rfl zK zK zK rfl zK (X_nilCheck rfl) rfl ?_
  refine WS_take 10 rfl rfl zK zK zK zK rfl rfl (X_fieldAddr rfl fld275_0 zd) rfl ?_
  refine WS_last (l':=#[true,true,true,true,true,true,true,true,true,true,true,true]) zH zK rfl zK ?_
  have hv1:v'.oneCell'=true:=by obtain ⟨_,_,rfl,_⟩:=hv'.shape; rfl
  refine W_store (l':=[v']) rfl rfl ty273 hv1 rfl (b:=b14) zM rfl rfl zU ?_
  refine W_nil ?_
  refine WC_goal ?_
  refine WC_done (.nil _) zK ?_
  refine W_blk (W_region (W_bin rfl rfl (b_add (m:=((i+1:Nat):Int)) ((i64w zO).trans zO)) rfl ?_))
  refine W_move rfl rfl (W_nil ?_)
  refine W_again ⟨i+1,Ws++[⟨bw,now,[],0⟩],v',X',HWs++[HW]⟩ ⟨by show i+1≤n; omega,by show (Ws++[_]).length=i+1; rw [List.length_append,hlen]; rfl,by show OwnS 276 1 v' (Ws++[_]).length ((Ws++[_]).map Wl.p) X'; rw [List.length_append,List.map_append]; exact hv',by show (HWs++[HW]).length=(Ws++[_]).length; rw [List.length_append,List.length_append,hl]; rfl,all_snoc hl hw hW,fun w h=>(List.mem_append.1 h).elim (hf w) (fun h=>by rw [List.mem_singleton.1 h]; exact ⟨rfl,rfl,rfl⟩)⟩ (by show n-(i+1)<n-i; omega) (sub_cons rfl (sub_cons rfl (sub_cons rfl (sub_cons rfl (sub_nil _))))) rfl (by show HSub _ ((b14,.cells 275 1 [v'])::(X'++((HWs++[HW]).flatten++H))); rw [List.flatten_append,List.flatten_singleton,List.append_assoc]; first | exact hsubI | (repeat (first | with_reducible exact HSub.refl _ | refine HSub.cons zT ?_ | refine HSub.app zS ?_ | exact HSub.nil _ | exact HSub.refl _ | refine HSub.drop ?_ | refine HSub.dropS ?_)))
 ·skip
  refine W_exit rfl ?_
  refine W_sr (W_move rfl rfl (W_assign rfl rfl (W_assign rfl rfl (W_nil (W_ret2m (H2:=(b14,.cells 275 1 [v])::(XS++(HWs.flatten++H))) Tryz.results196 rfl rfl (.nil _) zH ?_)))))
  exact ⟨b14,Ws,(b14,.cells 275 1 [v])::(XS++HWs.flatten),rfl,.mk hv hl hw,by omega,hf,by show _=_::((XS++HWs.flatten)++H); rw [List.append_assoc]⟩
theorem such_L {w0:World} {H:Heap} {b f:Value} (hb:b.cells.toList=[b]) (hf:f.cells.toList=[f]):LCalls Tryz.prog w0 188 #[b,f] (H) (fun v H'=>∃ b2 b3,v=.func (.func 271) #[] #[.pointer (some ⟨b2,0,none⟩),.pointer (some ⟨b3,0,none⟩)]∧H'=(b3,.cells 285 1 [f])::(b2,.cells 167 1 [b])::H):=by
 refine L_enter (l:=[b,f]) Tryz.func188 rfl Tryz.ntmps188 rfl rfl ?_
 refine W_sr ?_
 refine W_box (l:=[b]) rfl hb rfl (fun b2=>?_)
 refine W_box (l:=[f]) rfl hf rfl (fun b3=>?_)
 refine W_assign rfl rfl (W_nil (W_sr (W_makeFunc .nil (.cons rfl (.cons rfl .nil)) rfl ?_)))
 refine W_assign rfl rfl (W_nil (W_ret1m Tryz.results188 rfl (.nil _) (.refl _) ?_))
 exact ⟨b2,b3,rfl,rfl⟩
theorem such_iter {w0:World} {H HB0:Heap} {lp b2 b3 bb n fi:Nat} {ca:List Value} {Ws0:List Wl} (J:Nat→List Wl→Heap→Prop) (S:List Wl→Heap→Prop) (sel:Nat→Wl→Bool) (hfi:∀ (args:Array Value) (w:World),(callFunc fi args).run Tryz.prog w=.ok (.enter fi args) w)
  (hn64:n≤64) (hlen:∀ k Ws Hr,J k Ws Hr→Ws.length=n)
  (hcl:∀ k Ws HB Hr w,k<n→Ws[k]?=some w→BankH bb Ws HB→J k Ws Hr→PureAt Tryz.prog w0 ((b2,.cells 167 1 [.pointer (some ⟨bb,0,none⟩)])::(b3,.cells 285 1 [(Value.func (.func fi) #[] ca.toArray)])::(HB++Hr)) fi ([.int .i64 (k:Int),w.p]++ca) (.bool (sel k w)))
  (hskip:∀ k Ws Hr w,k<n→Ws[k]?=some w→J k Ws Hr→sel k w=false→J (k+1) Ws Hr)
  (hround:∀ k Ws HB Hr w,k<n→Ws[k]?=some w→BankH bb Ws HB→J k Ws Hr→sel k w=true→RoundC Tryz.prog w0 lp #[.int .i64 (k:Int),w.p] ((b2,.cells 167 1 [.pointer (some ⟨bb,0,none⟩)])::(b3,.cells 285 1 [(Value.func (.func fi) #[] ca.toArray)])::(HB++Hr)) (fun v H'=>∃ Ws' HB' Hr',BankH bb Ws' HB'∧HSub H' ((b2,.cells 167 1 [.pointer (some ⟨bb,0,none⟩)])::(b3,.cells 285 1 [(Value.func (.func fi) #[] ca.toArray)])::(HB'++Hr'))∧((v=.bool true∧J (k+1) Ws' Hr')∨(v=.bool false∧S Ws' Hr'))))
  (hB0:BankH bb Ws0 HB0) (hJ0:J 0 Ws0 H) :
  LCalls Tryz.prog w0 271 #[.func (.yield lp) #[] #[],.pointer (some ⟨b2,0,none⟩),.pointer (some ⟨b3,0,none⟩)] ((b2,.cells 167 1 [.pointer (some ⟨bb,0,none⟩)])::(b3,.cells 285 1 [(Value.func (.func fi) #[] ca.toArray)])::(HB0++H)) (fun _ H'=>∃ Ws' HB' Hr',BankH bb Ws' HB'∧HSub H' ((b2,.cells 167 1 [.pointer (some ⟨bb,0,none⟩)])::(b3,.cells 285 1 [(Value.func (.func fi) #[] ca.toArray)])::(HB'++Hr'))∧(J n Ws' Hr'∨S Ws' Hr')):=by
 refine L_enter (l:=[.func (.yield lp) #[] #[],.pointer (some ⟨b2,0,none⟩),.pointer (some ⟨b3,0,none⟩)]) Tryz.func271 rfl Tryz.ntmps271 rfl rfl ?_
 refine W_sr (W_load (v:=.pointer (some ⟨bb,0,none⟩)) rfl ty167 rfl (Cell.own (b:=b2) zM rfl) rfl ?_)
 have hm0:∀ p∈HB0,p∈(b2,.cells 167 1 [.pointer (some ⟨bb,0,none⟩)])::(b3,.cells 285 1 [(Value.func (.func fi) #[] ca.toArray)])::(HB0++H):=fun p hp=>List.mem_cons_of_mem _ (List.mem_cons_of_mem _ (List.mem_append_left _ hp))
 have hcq:=CPUs_q (w0:=w0) (bb:=bb) (Ws:=Ws0) hB0 hm0
 rw [hlen 0 Ws0 H hJ0] at hcq
 refine W_callq (.cons rfl .nil) Tryz.call88 rfl hcq ?_
 refine W_move rfl rfl (W_nil (W_block ?_))
 refine W_loopC (X:=(Nat × List Wl × Heap × Heap)) [(0,_),(1,_),(2,_),(7,_)] (fun (x:(Nat × List Wl × Heap × Heap))=>[(8,.int .i64 (x.1:Int))]) (fun _=>_) (fun (x:(Nat × List Wl × Heap × Heap))=>(b2,.cells 167 1 [.pointer (some ⟨bb,0,none⟩)])::(b3,.cells 285 1 [(Value.func (.func fi) #[] ca.toArray)])::(x.2.2.1++x.2.2.2)) (fun (x:(Nat × List Wl × Heap × Heap))=>x.1≤n∧BankH bb x.2.1 x.2.2.1∧J x.1 x.2.1 x.2.2.2) (fun (x:(Nat × List Wl × Heap × Heap))=>n-x.1) (0,Ws0,HB0,H) ⟨Nat.zero_le _,hB0,hJ0⟩ (sub_cons rfl (sub_cons rfl (sub_cons rfl (sub_cons rfl (sub_nil _))))) (sub_cons rfl (sub_nil _)) rfl (.refl _) ?_
 rintro ⟨k,Ws,HB,Hr⟩ ⟨hk,hB,hJk⟩
 dsimp only at hk hB hJk ⊢
 simp only [List.cons_append,List.nil_append]
 refine W_sr (W_bin rfl rfl b_lss rfl ?_)
 refine W_nil (W_seq ?_)
 refine W_condPS (p:=(k:Int)<(n:Int)) rfl (by simp) (fun q0=>?_) (fun q0=>?_)
 ·skip
  refine W_skip (W_seq (W_block (W_sr (W_move rfl rfl (W_assign rfl rfl (W_nil (W_sr ?_)))))))
  obtain ⟨w,hw⟩:∃ w,Ws[k]?=some w:=⟨_,List.getElem?_eq_getElem (by rw [hlen k Ws Hr hJk]; omega)⟩
  have hkn:k<n:=by omega
  obtain ⟨ad,cap,hcell,hlc,hrow0⟩:=hB.row
  have hmem:∀ p∈HB,p∈(b2,.cells 167 1 [.pointer (some ⟨bb,0,none⟩)])::(b3,.cells 285 1 [(Value.func (.func fi) #[] ca.toArray)])::(HB++Hr):=fun p hp=>List.mem_cons_of_mem _ (List.mem_cons_of_mem _ (List.mem_append_left _ hp))
  obtain ⟨qb,qo,rfl,hc⟩:=(hrow0 (w0:=w0) hmem).at (i:=k) (v:=w.p) (by rw [List.getElem?_map,hw]; rfl)
  refine W_load (v:=.pointer (some ⟨bb,0,none⟩)) rfl ty167 rfl (Cell.own (b:=b2) zM rfl) rfl ?_
  refine W_nilCheck rfl rfl (W_fieldAddr rfl fld275_0 zd rfl ?_)
  refine W_load (v:=.slice (some ⟨qb,qo,none⟩) Ws.length cap) rfl ty273 rfl (Cell.own (b:=bb) (hmem _ hcell) rfl) rfl ?_
  refine W_move rfl rfl ?_
  refine W_indexAddr (j:=k) rfl rfl ty273 ty276 rfl (by rw [hlen k Ws Hr hJk]; omega) rfl rfl ?_
  refine W_load (v:=w.p) rfl ty276 rfl (by rw [Nat.mul_one]; exact hc) rfl ?_
  refine W_assign rfl rfl (W_nil (W_sr (W_load (v:=(Value.func (.func fi) #[] ca.toArray)) rfl ty285 rfl (Cell.own (b:=b3) zM rfl) rfl ?_)))
  refine W_move rfl rfl (W_move rfl rfl (W_callqv (fa:=[]) (ca:=ca) rfl (.cons rfl (.cons rfl .nil)) rfl hfi rfl (hcl k Ws HB Hr w hkn hw hB hJk) ?_))
  rcases hs:sel k w with _ | _
  ·skip
   refine W_move rfl rfl (W_gno rfl rfl rfl ?_)
   refine W_gno rfl rfl rfl ?_
   refine W_gno rfl rfl rfl ?_
   refine W_gno rfl rfl rfl ?_
   refine W_gno rfl rfl rfl ?_
   first | refine W_pickt rfl rfl rfl ?_ | refine W_pickf rfl rfl rfl ?_
   refine W_nil (W_condF rfl rfl (W_skip (W_blk (W_region (W_bin rfl rfl (b_add (m:=((k+1:Nat):Int)) ((i64w zO).trans zO)) rfl ?_)))))
   refine W_move rfl rfl (W_nil ?_)
   refine W_again (k+1,Ws,HB,Hr) ⟨by show k+1≤n; omega,hB,hskip k Ws Hr w hkn hw hJk hs⟩ (by show n-(k+1)<n-k; omega) (sub_cons rfl (sub_cons rfl (sub_cons rfl (sub_cons rfl (sub_cons rfl (sub_nil _)))))) rfl (.refl _)
  ·skip
   refine W_move rfl rfl (W_gyes rfl rfl (W_move rfl rfl (W_gyes rfl rfl (W_move rfl rfl (W_gyes rfl rfl (W_move rfl rfl (W_gyes rfl rfl ?_)))))))
   refine W_yield rfl (.cons rfl (.cons rfl .nil)) rfl (hround k Ws HB Hr w hkn hw hB hJk hs) ?_
   rintro v H' ⟨Ws',HB',Hr',hB',hsub,⟨rfl,hJ'⟩ | ⟨rfl,hS'⟩⟩
   ·skip
    refine W_hsub hsub ?_
    refine W_gyes rfl rfl (W_not rfl rfl ?_)
    first | refine W_pickt rfl rfl rfl ?_ | refine W_pickf rfl rfl rfl ?_
    refine W_nil (W_condF rfl rfl (W_skip (W_blk (W_region (W_bin rfl rfl (b_add (m:=((k+1:Nat):Int)) ((i64w zO).trans zO)) rfl ?_)))))
    refine W_move rfl rfl (W_nil ?_)
    refine W_again (k+1,Ws',HB',Hr') ⟨by show k+1≤n; omega,hB',hJ'⟩ (by show n-(k+1)<n-k; omega) (sub_cons rfl (sub_cons rfl (sub_cons rfl (sub_cons rfl (sub_cons rfl (sub_nil _)))))) rfl (.refl _)
   ·skip
    refine W_hsub hsub ?_
    refine W_gyes rfl rfl (W_not rfl rfl ?_)
    first | refine W_pickt rfl rfl rfl ?_ | refine W_pickf rfl rfl rfl ?_
    refine W_nil (W_condT rfl rfl (W_ret0m Tryz.results271 (.nil _) (.refl _) ?_))
    exact ⟨Ws',HB',Hr',hB',.refl _,.inr hS'⟩
 ·skip
  refine W_exit rfl ?_
  refine W_end0m Tryz.results271 (.nil _) (.refl _) ?_
  obtain rfl:k=n:=by omega
  exact ⟨Ws,HB,Hr,hB,.refl _,.inl hJk⟩
theorem BankH.wheel {bb k:Nat} {Ws:List Wl} {HB:Heap} {w:Wl} (h:BankH bb Ws HB) (hk:Ws[k]?=some w):∃ HW,WheelH w.bw w.now w.L w.turn HW∧∀ p∈HW,p∈HB:=by
 cases h with
 | @mk v XS HWs hv hl hw =>
  have hkl:=(List.getElem?_eq_some_iff.1 hk).1
  obtain ⟨HW,hHW⟩:∃ HW,HWs[k]?=some HW:=⟨_,List.getElem?_eq_getElem zO⟩
  exact ⟨HW,hw k w HW hk hHW,fun p hp=>List.mem_cons_of_mem _ (List.mem_append_right _ (List.mem_flatten.2 ⟨HW,List.mem_of_getElem? hHW,hp⟩))⟩
theorem find_q2 {w0:World} {H HW:Heap} {bw now turn:Nat} {L:List Tm} {id:Int} (hW:WheelH bw now L turn HW) (hm:∀ p∈HW,p∈H):PureAt Tryz.prog w0 H 187 [.pointer (some ⟨bw,0,none⟩),.int .i64 id] (.tuple #[.agg (spotOf L id).v.toArray,.bool (heldB L id)]):=by
 cases hW with
 | @mk bm c sl XS bs l h =>
  have h1:=hm _ List.mem_cons_self
  have h2:=hm _ (List.mem_cons_of_mem _ List.mem_cons_self)
  by_cases hin:id∈L.map (·.id)
  ·obtain ⟨t,ht,rfl⟩:=List.mem_map.1 hin
   obtain ⟨hv,hh⟩:=h.hit ht
   rw [spotOf_in h.nodup ht,heldB_iff.2 hin]
   exact Find_q (now:=now) (turn:=turn) (c:=c) (l:=l) h.row h1 h2 hv hh
  ·obtain ⟨hv,hh⟩:=h.miss hin
   rw [spotOf_out hin,show heldB L id=false by (cases hb:heldB L id with | false=>rfl | true=>exact absurd (heldB_iff.1 hb) hin)]
   exact Find_q (tn:=0) (e:=zSpot) (now:=now) (turn:=turn) (c:=c) (l:=l) h.row h1 h2 hv hh
theorem findc_q {w0:World} {H:Heap} {bi k:Nat} {id:Int} {w:Wl} {HW:Heap} (hW:WheelH w.bw w.now w.L w.turn HW) (hm:∀ p∈HW,p∈H) (hb:(bi,.cells 3 1 [.int .i64 id])∈H) :PureAt Tryz.prog w0 H 186 [.int .i64 (k:Int),w.p,.pointer (some ⟨bi,0,none⟩)] (.bool (heldB w.L id)):=by
 refine L_enter Tryz.func186 rfl Tryz.ntmps186 rfl rfl ?_
 refine W_sr (W_assign rfl rfl (W_nil (W_sr (W_move rfl rfl (W_load (v:=.int .i64 id) rfl ty3 rfl (Cell.own hb rfl) rfl ?_)))))
 refine W_callq (.cons rfl (.cons rfl .nil)) Tryz.call187 rfl (find_q2 (id:=id) hW hm) ?_
 refine W_move rfl rfl (W_extract rfl rfl rfl (W_extract rfl rfl rfl ?_))
 refine W_alloc (l:=zSpot.v) ty71 rfl rfl (fun b6=>?_)
 refine W_storeA (l':=(spotOf w.L id).v) rfl rfl ty71 rfl rfl (b:=b6) zM (by exact Nat.le_refl 4) rfl zU ?_
 refine W_assign rfl rfl (W_nil (W_sr (W_move rfl rfl (W_assign rfl rfl (W_nil (W_ret1m (H2:=H) Tryz.results186 rfl (.nil _) zH ?_))))))
 exact ⟨rfl,rfl⟩
def findK (Ws:List Wl) (id:Int):Option Nat:=Ws.findIdx? (fun w=>heldB w.L id)
theorem findK_some {Ws:List Wl} {id:Int} {k:Nat} {w:Wl} (hw:Ws[k]?=some w) (hh:heldB w.L id=true) (hf:∀ (j:Nat) u,j<k→Ws[j]?=some u→heldB u.L id=false):findK Ws id=some k:=by
 unfold findK
 have hk:=(List.getElem?_eq_some_iff.1 hw)
 have hk1:=hk.1
 refine List.findIdx?_eq_some_iff_getElem.2 ⟨hk.1,by rw [hk.2]; exact hh,fun j hj=>?_⟩
 rw [hf j _ hj (List.getElem?_eq_getElem (by omega))]; simp
theorem findK_none {Ws:List Wl} {id:Int} (hf:∀ (j:Nat) u,j<Ws.length→Ws[j]?=some u→heldB u.L id=false):findK Ws id=none:=by
 unfold findK
 rw [List.findIdx?_eq_none_iff]
 intro w hw
 obtain ⟨j,hj,e⟩:=List.getElem_of_mem hw
 exact hf j w hj (by rw [List.getElem?_eq_getElem hj,e])
def findV (Ws:List Wl) (id:Int):Value:=match findK Ws id with
 | some k=>match Ws[k]? with
  | some w=>.tuple #[.int .i64 (k:Int),.agg (spotOf w.L id).v.toArray,.bool true]
  | none=>.tuple #[.int .i64 0,.agg zSpot.v.toArray,.bool false]
 | none=>.tuple #[.int .i64 0,.agg zSpot.v.toArray,.bool false]
theorem snoc_all {Ws:List Wl} {p:Wl→Bool} {k:Nat} {w:Wl} (h:∀ (j:Nat) u,j<k→Ws[j]?=some u→p u=false) (hw:Ws[k]?=some w) (hs:p w=false):∀ (j:Nat) u,j<k+1→Ws[j]?=some u→p u=false:=fun j u hj hu=>by
 by_cases e:j=k
 ·subst e
  obtain rfl:=Option.some.inj (hu.symm.trans hw)
  exact hs
 ·exact h j u zO hu
theorem FindB_L {w0:World} {H:Heap} {HB:Heap} {bb:Nat} {Ws:List Wl} {id:Int} (hB:BankH bb Ws HB) (hn64:Ws.length≤64) :LCalls Tryz.prog w0 98 #[.pointer (some ⟨bb,0,none⟩),.int .i64 id] (HB++H) (fun v H'=>∃ HB',BankH bb Ws HB'∧v=findV Ws id∧H'=HB'++H):=by
 refine L_enter (l:=[.pointer (some ⟨bb,0,none⟩),.int .i64 id]) Tryz.func98 rfl Tryz.ntmps98 rfl rfl ?_
 refine W_sr ?_
 refine W_box (l:=[.int .i64 id]) rfl rfl rfl (fun b3=>?_)
 refine W_alloc (l:=[.int .i64 0]) ty3 rfl rfl (fun b4=>?_)
 refine W_alloc (l:=zSpot.v) ty71 rfl rfl (fun b5=>?_)
 refine W_alloc (l:=[.bool false]) ty4 rfl rfl (fun b6=>?_)
 refine W_nil (W_sr (W_makeFunc .nil (.cons rfl .nil) rfl ?_))
 refine W_assign rfl rfl (W_nil (W_seq (W_sr (W_move rfl rfl (W_move rfl rfl (W_call (.cons rfl (.cons rfl .nil)) Tryz.call188 rfl (such_L (b:=.pointer (some ⟨bb,0,none⟩)) (f:=.func (.func 186) #[] #[.pointer (some ⟨b3,0,none⟩)]) rfl rfl) ?_))))))
 rintro v H' ⟨b2_,b3_,rfl,rfl⟩
 refine W_nil (W_block (W_rangeFunc rfl Tryz.call271 ?_))
 intro lp D r hst hpd hps hasg hbody hA
 have hr:=loop_ready hst hpd
 show LCalls _ _ _ #[_,_,_] _ _
 refine ((such_iter (b2:=b2_) (b3:=b3_) (bb:=bb) (n:=Ws.length) (fi:=186) (ca:=[.pointer (some ⟨b3,0,none⟩)]) (Ws0:=Ws) (HB0:=HB) (H:=(lp,.obj (.loop r))::(D,.obj (.deferred (some [])))::(b6,.cells 4 1 [.bool false])::(b5,.cells 71 4 zSpot.v)::(b4,.cells 3 1 [.int .i64 0])::(b3,.cells 3 1 [.int .i64 id])::H) (fun k Ws2 Hr=>Ws2=Ws∧(∀ (j:Nat) u,j<k→Ws[j]?=some u→heldB u.L id=false)∧Hr=(lp,.obj (.loop r))::(D,.obj (.deferred (some [])))::(b6,.cells 4 1 [.bool false])::(b5,.cells 71 4 zSpot.v)::(b4,.cells 3 1 [.int .i64 0])::(b3,.cells 3 1 [.int .i64 id])::H) (fun Ws2 Hr=>Ws2=Ws∧∃ (k:Nat) (w:Wl),Ws[k]?=some w∧findK Ws id=some k∧Hr=(lp,.obj (.loop (Loop.at r .done (some .ret))))::(D,.obj (.deferred (some [])))::(b6,.cells 4 1 [.bool true])::(b5,.cells 71 4 (spotOf w.L id).v)::(b4,.cells 3 1 [.int .i64 (k:Int)])::(b3,.cells 3 1 [.int .i64 id])::H) (fun _ w=>heldB w.L id) Tryz.call186 hn64 (fun k Ws' Hr hJ=>by rw [hJ.1]) (fun k Ws2 HB2 Hr w hk hw hB2 hJ=>by obtain ⟨rfl,_,rfl⟩:=hJ; obtain ⟨HW,hW,hmw⟩:=hB2.wheel hw; exact findc_q (bi:=b3) hW (fun p hp=>List.mem_cons_of_mem _ (List.mem_cons_of_mem _ (List.mem_append_left _ (hmw p hp)))) zM) (fun k Ws2 Hr w hk hw hJ hs=>by obtain ⟨rfl,h1,h2⟩:=hJ; exact ⟨rfl,snoc_all h1 hw hs,h2⟩) ?_ hB ⟨rfl,fun j u hj=>by omega,rfl⟩).hsub zH).mono ?_
 ·intro k Ws2 HB2 Hr w hk hw hB2 hJ hs
  obtain ⟨rfl,hJ1,rfl⟩:=hJ
  obtain ⟨HW,hW,hmw⟩:=hB2.wheel hw
  refine round_intro hst hpd hA hps rfl hasg rfl rfl rfl zT ?_
  refine W_sr (W_assign rfl rfl (W_nil (W_region (W_assign rfl rfl (W_nil (W_begin hst hpd zT hbody ?_))))))
  refine W_block (W_sr (W_move rfl rfl (W_load (v:=.int .i64 id) rfl ty3 rfl (Cell.own (b:=b3) zM rfl) rfl ?_)))
  refine W_callq (.cons rfl (.cons rfl .nil)) Tryz.call187 rfl (find_q2 (id:=id) hW (fun p hp=>(by repeat (first | exact List.mem_append_left _ (hmw p hp) | exact List.mem_cons_self | apply List.mem_cons_of_mem | apply List.mem_append_right)))) ?_
  refine W_move rfl rfl (W_extract rfl rfl rfl (W_extract rfl rfl rfl ?_))
  refine W_alloc (l:=zSpot.v) ty71 rfl rfl (fun b10=>?_)
  refine W_storeA (l':=(spotOf w.L id).v) rfl rfl ty71 rfl rfl (b:=b10) zM (by exact Nat.le_refl 4) rfl zU ?_
  refine W_assign rfl rfl (W_nil (W_seq ?_))
  refine Rd.W_anyC [(b10,.cells 71 4 (spotOf w.L id).v)] zk ?_
  refine Rd.WC_take 0 (l':=#[true,false,false,false,false]) rfl zK zK zK zK rfl zK (X_move rfl) rfl ?_
  refine Rd.WC_take 1 (l':=#[true,true,false,false,false]) rfl zK zK zK zK rfl zK (X_loadB (vs:=(spotOf w.L id).v) rfl ty71 rfl (b:=b10) zM rfl rfl) rfl ?_
  refine Rd.WC_one 2 zH zK rfl rfl ?_
  refine W_store (l':=[.int .i64 (k:Int)]) rfl rfl ty3 rfl rfl (b:=b4) zM rfl rfl zU ?_
  refine W_nil ?_
  refine Rd.WC_goal ?_
  refine Rd.WC_one 3 zH zK rfl rfl ?_
  refine W_storeA (l':=(spotOf w.L id).v) rfl rfl ty71 rfl rfl (b:=b5) zM (by exact Nat.le_refl 4) rfl zU ?_
  refine W_nil ?_
  refine Rd.WC_goal ?_
  refine Rd.WC_one 4 zH zK rfl rfl ?_
  refine W_store (l':=[.bool true]) rfl rfl ty4 rfl rfl (b:=b6) zM rfl rfl zU ?_
  refine W_nil ?_
  refine Rd.WC_goal ?_
  refine Rd.WC_done zH zK ?_
  refine W_retround zT ?_
  exact ⟨Ws2,HB2,(lp,.obj (.loop (Loop.at r .done (some .ret))))::(D,.obj (.deferred (some [])))::(b6,.cells 4 1 [.bool true])::(b5,.cells 71 4 (spotOf w.L id).v)::(b4,.cells 3 1 [.int .i64 (k:Int)])::(b3,.cells 3 1 [.int .i64 id])::H,hB2,zH,.inr ⟨rfl,rfl,k,w,hw,findK_some hw hs hJ1,rfl⟩⟩
  skip
 ·intro _ H' hp
  obtain ⟨Ws2,HB2,Hr,hB2,hs,hJS⟩:=hp
  rcases hJS with ⟨rfl,hJ1,rfl⟩ | ⟨rfl,k,w,hw,hfk,rfl⟩
  case inr =>
   refine ⟨.done,some .ret,(b2_,.cells 167 1 [.pointer (some ⟨bb,0,none⟩)])::(b3_,.cells 285 1 [.func (.func 186) #[] #[.pointer (some ⟨b3,0,none⟩)]])::(HB2++((D,.obj (.deferred (some [])))::(b6,.cells 4 1 [.bool true])::(b5,.cells 71 4 (spotOf w.L id).v)::(b4,.cells 3 1 [.int .i64 (k:Int)])::(b3,.cells 3 1 [.int .i64 id])::H)),hs.trans zH,by decide,?_⟩
   show W _ _ _ _ _ _ _ _ _
   refine W_ret3G (H2:=HB2++H) Tryz.results98 (.cons zT (.nil _)) (.one rfl ty3 rfl (Cell.own (b:=b4) zM rfl)) (.own rfl ty71 rfl (b:=b5) zM rfl) (.one rfl ty4 rfl (Cell.own (b:=b6) zM rfl)) zH ?_
   exact ⟨HB2,hB2,by unfold findV; rw [hfk]; dsimp only; rw [hw],rfl⟩
  refine ⟨.ready,none,(b2_,.cells 167 1 [.pointer (some ⟨bb,0,none⟩)])::(b3_,.cells 285 1 [.func (.func 186) #[] #[.pointer (some ⟨b3,0,none⟩)]])::(HB2++((D,.obj (.deferred (some [])))::(b6,.cells 4 1 [.bool false])::(b5,.cells 71 4 zSpot.v)::(b4,.cells 3 1 [.int .i64 0])::(b3,.cells 3 1 [.int .i64 id])::H)),by rw [hr]; exact hs.trans zH,by decide,?_⟩
  show W _ _ _ _ _ _ _ _ _
  refine W_blk (W_sr (W_build ty71 pl71 .nil rfl zF rfl ?_))
  refine W_store (l':=[.int .i64 0]) rfl rfl ty3 rfl rfl (b:=b4) zM rfl rfl zU ?_
  refine W_storeA (l':=zSpot.v) rfl rfl ty71 rfl rfl (b:=b5) zM (by exact Nat.le_refl 4) rfl zU ?_
  refine W_store (l':=[.bool false]) rfl rfl ty4 rfl rfl (b:=b6) zM rfl rfl zU ?_
  refine W_nil (W_ret3G (H2:=HB2++H) Tryz.results98 (.cons zT (.nil _)) (.one rfl ty3 rfl (Cell.own (b:=b4) zM rfl)) (.own rfl ty71 rfl (b:=b5) zM rfl) (.one rfl ty4 rfl (Cell.own (b:=b6) zM rfl)) zH ?_)
  exact ⟨HB2,hB2,by unfold findV; rw [findK_none hJ1],rfl⟩
theorem findK_at {Ws:List Wl} {id:Int} {k:Nat} (h:findK Ws id=some k):∃ w,Ws[k]?=some w∧heldB w.L id=true:=by
 unfold findK at h
 obtain ⟨h1,h2,_⟩:=List.findIdx?_eq_some_iff_getElem.1 h
 exact ⟨Ws[k],List.getElem?_eq_getElem h1,h2⟩
theorem delc_pure {x y:Value}:Pure Tryz.prog (fun _=>True) 263 [x,y] (.bool true):=by
 intro w0 H hT
 refine L_enter Tryz.func263 rfl Tryz.ntmps263 rfl rfl ?_
 refine W_sr (W_assign rfl rfl (W_nil (W_sr (W_assign rfl rfl (W_nil (W_ret1m (H2:=H) Tryz.results263 rfl (.nil _) zH ?_))))))
 exact ⟨rfl,rfl⟩
def delW (l:List Int) (w:Wl):Wl:=⟨w.bw,w.now,(delsT w.L l).1,w.turn⟩
def delK (Ws:List Wl) (l:List Int) (k:Nat):List Wl:=(Ws.take k).map (delW l)++Ws.drop k
theorem delK_len (Ws:List Wl) (l:List Int) (k:Nat):(delK Ws l k).length=Ws.length:=by
 unfold delK
 rw [List.length_append,List.length_map,List.length_take,List.length_drop]; omega
theorem delK_at {Ws:List Wl} {l:List Int} {k:Nat} {w:Wl} (h:Ws[k]?=some w):(delK Ws l k)[k]?=some w:=by
 have hk:=(List.getElem?_eq_some_iff.1 h).1
 unfold delK
 rw [List.getElem?_append_right (by rw [List.length_map,List.length_take]; omega),List.length_map,List.length_take,Nat.min_eq_left (by omega),Nat.sub_self,List.getElem?_drop,Nat.add_zero,h]
theorem delK_set {Ws:List Wl} {l:List Int} {k:Nat} {w:Wl} (h:Ws[k]?=some w):(delK Ws l k).set k (delW l w)=delK Ws l (k+1):=by
 have hk:=(List.getElem?_eq_some_iff.1 h).1
 have e:Ws.drop k=w::Ws.drop (k+1):=by
  rw [List.drop_eq_getElem_cons hk,(List.getElem?_eq_some_iff.1 h).2]
 unfold delK
 rw [takeAt h,List.map_append,e,List.set_append_right _ _ (by rw [List.length_map,List.length_take]; omega),List.length_map,List.length_take,Nat.min_eq_left (by omega),Nat.sub_self]
 simp
theorem delK_all (Ws:List Wl) (l:List Int):delK Ws l Ws.length=Ws.map (delW l):=by
 unfold delK
 rw [List.take_length,List.drop_length,List.append_nil]
def cntK (Ws:List Wl) (l:List Int):Nat→Nat
 | 0=>0
 | k+1=>cntK Ws l k+match Ws[k]? with
  | some w=>(delsT w.L l).2
  | none=>0
theorem cntK_at {Ws:List Wl} {l:List Int} {k:Nat} {w:Wl} (h:Ws[k]?=some w):cntK Ws l (k+1)=cntK Ws l k+(delsT w.L l).2:=by
 show cntK Ws l k+(match Ws[k]? with | some w=>(delsT w.L l).2 | none=>0)=_
 rw [h]
theorem delsT_le2 (L:List Tm) (l:List Int):(delsT L l).2≤l.length:=by
 have:=delsT_le L l l.length (Nat.le_refl _)
 rwa [List.take_length] at this
theorem cntK_le (Ws:List Wl) (l:List Int):∀ k,cntK Ws l k≤k*l.length
 | 0=>Nat.zero_le _
 | k+1=>by
  have ih:=cntK_le Ws l k
  rw [Nat.add_mul]
  show cntK Ws l k+(match Ws[k]? with | some w=>(delsT w.L l).2 | none=>0)≤_
  refine Nat.add_le_add ih ?_
  cases hk:Ws[k]? with
  | none=>exact Nat.zero_le _
  | some w=>exact Nat.le_trans (delsT_le2 w.L l) (Nat.le_of_eq (Nat.one_mul _).symm)
theorem DelB_L {w0:World} {H:Heap} {HB:Heap} {bb:Nat} {Ws:List Wl} (hB:BankH bb Ws HB) (hn64:Ws.length≤64) {l:List Int} {ad:Option Addr} {cap:Nat} (hl:l.length≤4611686018427387904) (hl2:l.length≤1000000) (hrow:Holds w0 H ad (l.map (Value.int .i64))) :LCalls Tryz.prog w0 178 #[.pointer (some ⟨bb,0,none⟩),.slice ad l.length cap] (HB++H) (fun v H'=>∃ HB',BankH bb (Ws.map (delW l)) HB'∧v=.int .i64 (cntK Ws l Ws.length:Nat)∧H'=HB'++H):=by
 refine L_enter (l:=[.pointer (some ⟨bb,0,none⟩),.slice ad l.length cap]) Tryz.func178 rfl Tryz.ntmps178 rfl rfl ?_
 refine W_sr ?_
 refine W_box (l:=[.slice ad l.length cap]) rfl rfl rfl (fun b3=>?_)
 refine W_assign rfl rfl (W_nil (W_sr ?_))
 refine W_alloc (l:=[.int .i64 0]) ty3 rfl rfl (fun b5=>?_)
 refine W_store (l':=[.int .i64 0]) rfl rfl ty3 rfl rfl (b:=b5) zM rfl rfl zU ?_
 refine W_nil (W_seq (W_sr (W_move rfl rfl (W_call (.cons rfl (.cons rfl .nil)) Tryz.call188 rfl (such_L (b:=.pointer (some ⟨bb,0,none⟩)) (f:=(Value.func (.func 263) #[] #[])) rfl rfl) ?_))))
 rintro v H' ⟨b2_,b3_,rfl,rfl⟩
 refine W_nil (W_block (W_rangeFunc rfl Tryz.call271 ?_))
 intro lp D r hst hpd hps hasg hbody hA
 have hr:=loop_ready hst hpd
 show LCalls _ _ _ #[_,_,_] _ _
 refine ((such_iter (b2:=b2_) (b3:=b3_) (bb:=bb) (n:=Ws.length) (fi:=263) (ca:=[]) (Ws0:=Ws) (HB0:=HB) (H:=(lp,.obj (.loop r))::(D,.obj (.deferred (some [])))::(b5,.cells 3 1 [.int .i64 (0:Int)])::(b3,.cells 63 1 [.slice ad l.length cap])::H) (fun k Ws2 Hr=>Ws2=delK Ws l k∧Hr=(lp,.obj (.loop r))::(D,.obj (.deferred (some [])))::(b5,.cells 3 1 [.int .i64 ((cntK Ws l k:Nat):Int)])::(b3,.cells 63 1 [.slice ad l.length cap])::H) (fun _ _=>False) (fun _ _=>true) Tryz.call263 hn64 (fun k Ws' Hr hJ=>by rw [hJ.1,delK_len]) (fun k Ws2 HB2 Hr w hk hw hB2 hJ=>delc_pure.at trivial) (fun k Ws2 Hr w hk hw hJ hs=>by cases hs) ?_ hB ⟨by unfold delK; rw [List.take_zero,List.drop_zero]; rfl,rfl⟩).hsub zH).mono ?_
 ·intro k Ws2 HB2 Hr w hk hw hB2 hJ hs
  obtain ⟨rfl,rfl⟩:=hJ
  obtain ⟨w2,hw2⟩:∃ w2,Ws[k]?=some w2:=⟨_,List.getElem?_eq_getElem hk⟩
  obtain rfl:w=w2:=Option.some.inj (hw.symm.trans (delK_at hw2))
  obtain ⟨HW,HR,hW,hs1,hs2⟩:=hB2.at hw
  have hc1:=cntK_le Ws l k
  have hc2:=delsT_le2 w.L l
  have hc3:=cntK_at (l:=l) hw2
  have hc4:k*l.length≤64*l.length:=Nat.mul_le_mul_right _ zO
  refine round_intro hst hpd hA hps rfl hasg rfl rfl rfl zT ?_
  refine W_region (W_assign rfl rfl (W_nil (W_begin hst hpd zT hbody ?_)))
  refine W_block ?_
  refine Rd.W_anyS [(b5,.cells 3 1 [.int .i64 ((cntK Ws l k:Nat):Int)]),(b3,.cells 63 1 [.slice ad l.length cap])] 5 zk ?_
  refine Rd.WS_take 0 (l':=#[true,false,false,false,false,false]) rfl rfl zK zK zK zK zK rfl zK (X_load (v:=.int .i64 (cntK Ws l k:Nat)) rfl ty3 rfl (Cell.own (b:=b5) zM rfl)) rfl ?_
  refine Rd.WS_take 1 (l':=#[true,true,false,false,false,false]) rfl rfl zK zK zK zK zK rfl zK (X_move rfl) rfl ?_
  refine Rd.WS_take 2 (l':=#[true,true,true,false,false,false]) rfl rfl zK zK zK zK zK rfl zK (X_load (v:=.slice ad l.length cap) rfl ty63 rfl (Cell.own (b:=b3) zM rfl)) rfl ?_
  refine Rd.WS_one 3 zH rfl zK rfl rfl ?_
  refine W_hsub (H':=HW++(HR++((lp,.obj (.loop (Loop.at r .busy none)))::(b2_,.cells 167 1 [.pointer (some ⟨bb,0,none⟩)])::(b3_,.cells 285 1 [(Value.func (.func 263) #[] #[])])::(D,.obj (.deferred (some [])))::(b5,.cells 3 1 [.int .i64 ((cntK Ws l k:Nat):Int)])::(b3,.cells 63 1 [.slice ad l.length cap])::H))) ((show HSub _ (HB2++((lp,.obj (.loop (Loop.at r .busy none)))::(b2_,.cells 167 1 [.pointer (some ⟨bb,0,none⟩)])::(b3_,.cells 285 1 [(Value.func (.func 263) #[] #[])])::(D,.obj (.deferred (some [])))::(b5,.cells 3 1 [.int .i64 ((cntK Ws l k:Nat):Int)])::(b3,.cells 63 1 [.slice ad l.length cap])::H)) from zH).trans (hs1 _)) ?_
  refine W_call (.cons rfl (.cons rfl .nil)) Tryz.call264 rfl (Del_L (l:=l) hW hl (H:=HR++((lp,.obj (.loop (Loop.at r .busy none)))::(b2_,.cells 167 1 [.pointer (some ⟨bb,0,none⟩)])::(b3_,.cells 285 1 [(Value.func (.func 263) #[] #[])])::(D,.obj (.deferred (some [])))::(b5,.cells 3 1 [.int .i64 ((cntK Ws l k:Nat):Int)])::(b3,.cells 63 1 [.slice ad l.length cap])::H)) (hrow.up zH)) ?_
  rintro v H' ⟨HW',hW',rfl,rfl⟩
  obtain ⟨HB3,hB3,hs3⟩:=hs2 (delW l w) HW' rfl hW'
  rw [delK_set hw2] at hB3
  refine W_hsub (hs3 _) ?_
  refine W_nil ?_
  refine Rd.WS_goal ?_
  refine Rd.WS_take 4 (l':=#[true,true,true,true,true,false]) rfl rfl (by decide +kernel) (by decide +kernel) (by decide +kernel) (by decide +kernel) (by decide +kernel) rfl (by decide +kernel) (X_bin rfl rfl (b_add (m:=((cntK Ws l (k+1):Nat):Int)) (by rw [i64w (by omega)]; omega))) rfl ?_
  refine Rd.WS_last (l':=#[true,true,true,true,true,true]) zH zK rfl zK ?_
  refine W_store (l':=[.int .i64 (cntK Ws l (k+1):Nat)]) rfl rfl ty3 rfl rfl (b:=b5) zM rfl rfl zU ?_
  refine W_nil ?_
  refine Rd.WC_goal ?_
  refine Rd.WC_done (.nil _) zK ?_
  refine W_blk (W_endround zT ?_)
  rw [hr]
  exact ⟨delK Ws l (k+1),HB3,(lp,.obj (.loop r))::(D,.obj (.deferred (some [])))::(b5,.cells 3 1 [.int .i64 ((cntK Ws l (k+1):Nat):Int)])::(b3,.cells 63 1 [.slice ad l.length cap])::H,hB3,zH,.inl ⟨rfl,rfl,rfl⟩⟩
 ·intro _ H' hp
  obtain ⟨Ws2,HB2,Hr,hB2,hs,hJS⟩:=hp
  obtain ⟨rfl,rfl⟩:=hJS.resolve_right (fun h=>h)
  rw [delK_all] at hB2
  refine ⟨.ready,none,(b2_,.cells 167 1 [.pointer (some ⟨bb,0,none⟩)])::(b3_,.cells 285 1 [(Value.func (.func 263) #[] #[])])::(HB2++((D,.obj (.deferred (some [])))::(b5,.cells 3 1 [.int .i64 ((cntK Ws l Ws.length:Nat):Int)])::(b3,.cells 63 1 [.slice ad l.length cap])::H)),by rw [hr]; exact hs.trans zH,by decide,?_⟩
  show W _ _ _ _ _ _ _ _ _
  refine W_blk (W_sr (W_load (v:=.int .i64 (cntK Ws l Ws.length:Nat)) rfl ty3 rfl (Cell.own (b:=b5) zM rfl) rfl ?_))
  refine W_assign rfl rfl (W_nil (W_ret1m (H2:=HB2++H) Tryz.results178 rfl (.cons zT (.nil _)) zH ?_))
  exact ⟨HB2,hB2,rfl,rfl⟩
structure Tone where
 made:Bool
 shut:Bool
 prog:Int
 starts:Int
def oneC (o:Tone):List Value:=[.bool o.made,.bool o.shut,.int .i64 o.prog,.int .i64 o.starts]
theorem oneC_len (o:Tone):(oneC o).length=4:=rfl
def tmRow (pb bb:Nat) (A:List Tone):List Value:=.pointer (some ⟨pb,0,none⟩)::.pointer (some ⟨bb,0,none⟩)::A.flatMap oneC
def zTone:Tone:=⟨false,false,0,0⟩
theorem flat_get {A:List Tone} {i j:Nat} {o:Tone} (h:A[i]?=some o) (hj:j<4):(A.flatMap oneC)[i*4+j]?=(oneC o)[j]?:=by
 induction A generalizing i with
 | nil=>simp at h
 | cons x A ih =>
  cases i with
  | zero =>
   obtain rfl:x=o:=by simpa using h
   rw [Nat.zero_mul,Nat.zero_add,List.flatMap_cons,List.getElem?_append_left (by rw [oneC_len]; exact hj)]
  | succ i =>
   rw [List.flatMap_cons,List.getElem?_append_right (by rw [oneC_len]; omega),oneC_len,show (i+1)*4+j-4=i*4+j by omega]
   exact ih (by simpa using h)
theorem tm_len {pb bb:Nat} (A:List Tone):(tmRow pb bb A).length=A.length*4+2:=by
 unfold tmRow; rw [List.length_cons,List.length_cons,flat_length oneC_len]
theorem tm_get {pb bb i j:Nat} {A:List Tone} {o:Tone} (h:A[i]?=some o) (hj:j<4):(tmRow pb bb A)[2+i*4+j]?=(oneC o)[j]?:=by
 unfold tmRow
 rw [show 2+i*4+j=(i*4+j)+1+1 by omega,List.getElem?_cons_succ,List.getElem?_cons_succ,flat_get h hj]
theorem tm_lt {pb bb i j:Nat} {A:List Tone} {o:Tone} (h:A[i]?=some o) (hj:j<4):Nat.blt (2+i*4+j) (tmRow pb bb A).length=true:=by
 have:=(List.getElem?_eq_some_iff.1 h).1
 rw [tm_len,Nat.blt_eq]; omega
theorem tm_get0 {pb bb i:Nat} {A:List Tone} {o:Tone} (h:A[i]?=some o):(tmRow pb bb A)[2+i*4+0]?=some (.bool o.made):=tm_get (j:=0) h zd
theorem tm_get1 {pb bb i:Nat} {A:List Tone} {o:Tone} (h:A[i]?=some o):(tmRow pb bb A)[2+i*4+1]?=some (.bool o.shut):=tm_get (j:=1) h zd
theorem flat_setj {A:List Tone} {i j:Nat} {o o':Tone} {v:Value} (h:A[i]?=some o) (hj:j<4) (e:(oneC o).set j v=oneC o'):(A.flatMap oneC).set (i*4+j) v=(A.set i o').flatMap oneC:=by
 induction A generalizing i with
 | nil=>simp at h
 | cons x A ih =>
  cases i with
  | zero =>
   obtain rfl:x=o:=by simpa using h
   rw [Nat.zero_mul,Nat.zero_add,List.flatMap_cons,List.set_append_left _ _ (by rw [oneC_len]; exact hj),e]
   rfl
  | succ i =>
   rw [List.flatMap_cons,List.set_append_right _ _ (by rw [oneC_len]; omega),oneC_len,show (i+1)*4+j-4=i*4+j by omega,ih (by simpa using h)]
   rfl
theorem tm_set {pb bb i j:Nat} {A:List Tone} {o o':Tone} {v:Value} (h:A[i]?=some o) (hj:j<4) (e:(oneC o).set j v=oneC o'):(tmRow pb bb A).set (2+i*4+j) v=tmRow pb bb (A.set i o'):=by
 unfold tmRow
 rw [show 2+i*4+j=(i*4+j)+1+1 by omega,List.set_cons_succ,List.set_cons_succ,flat_setj h hj e]
theorem tm_set0 {pb bb i:Nat} {A:List Tone} {o:Tone} {x:Bool} (h:A[i]?=some o):(tmRow pb bb A).set (2+i*4+0) (.bool x)=tmRow pb bb (A.set i { o with made:=x }):=tm_set (j:=0) h zd rfl
theorem tm_set1 {pb bb i:Nat} {A:List Tone} {o:Tone} {x:Bool} (h:A[i]?=some o):(tmRow pb bb A).set (2+i*4+1) (.bool x)=tmRow pb bb (A.set i { o with shut:=x }):=tm_set (j:=1) h zd rfl
theorem tm_set2 {pb bb i:Nat} {A:List Tone} {o:Tone} {x:Int} (h:A[i]?=some o):(tmRow pb bb A).set (2+i*4+2) (.int .i64 x)=tmRow pb bb (A.set i { o with prog:=x }):=tm_set (j:=2) h zd rfl
theorem flat_spl {A:List Tone} {i:Nat} {o':Tone} (h:i<A.length):spliceL (A.flatMap oneC) (i*4) (oneC o')=(A.set i o').flatMap oneC:=flat_set oneC_len o' h
theorem tm_spl {pb bb i:Nat} {A:List Tone} {o':Tone} (h:i<A.length):spliceL (tmRow pb bb A) (2+i*4) (oneC o')=tmRow pb bb (A.set i o'):=by
 have e:=flat_spl (o':=o') h
 unfold spliceL at e ⊢
 unfold tmRow
 rw [← e,show 2+i*4=(i*4)+1+1 by omega,List.take_succ_cons,List.take_succ_cons,show (i*4)+1+1+(oneC o').length=(i*4+(oneC o').length)+1+1 by omega,List.drop_succ_cons,List.drop_succ_cons]
 rfl
theorem tm_load {pb bb i:Nat} {A:List Tone} {o:Tone} (h:A[i]?=some o):((tmRow pb bb A).drop (2+i*4)).take 4=oneC o:=by
 apply List.ext_getElem?
 intro j
 by_cases c:j<4
 ·rw [List.getElem?_take,if_pos c,List.getElem?_drop,tm_get h c]
 ·rw [List.getElem?_eq_none (by rw [List.length_take]; omega),List.getElem?_eq_none (by rw [oneC_len]; omega)]
structure AsOk (A:List Tone):Prop where
 len:A.length=256
 rng:∀ o∈A,0≤o.prog∧o.prog≤16
theorem AsOk.set {A:List Tone} (h:AsOk A) (i:Nat) {o:Tone} (hp:0≤o.prog∧o.prog≤16):AsOk (A.set i o):=⟨by rw [List.length_set,h.len],fun x hx=>by
 rcases List.mem_or_eq_of_mem_set hx with hx | rfl
 ·exact h.rng x hx
 ·exact hp⟩
theorem AsOk.at {A:List Tone} (h:AsOk A) {i:Nat} (hi:i<256):∃ o,A[i]?=some o:=⟨_,List.getElem?_eq_getElem (by rw [h.len]; exact hi)⟩
inductive TimerH (tb n:Nat) (Ws:List Wl) (Q Rs:List (Int × Int)) (As:List Tone):Heap→Prop
 | mk {pb bb:Nat} {HP HB:Heap} (hP:PendH pb n Q Rs HP) (hB:BankH bb Ws HB) (hA:AsOk As) (hn:Ws.length=n∧n≤64):TimerH tb n Ws Q Rs As ((tb,.cells 170 1026 (tmRow pb bb As))::(HP++HB))
theorem with_lo {tb:Nat} {id:Int} {f:Value} (hi:id<0):Pure Tryz.prog (fun _=>True) 165 [.pointer (some ⟨tb,0,none⟩),.int .i64 id,f] (.int .i64 2):=by
 intro w0 H hT
 refine L_enter Tryz.func165 rfl Tryz.ntmps165 rfl rfl ?_
 refine W_sr (W_assign rfl rfl (W_nil (W_seq (W_block (W_sr (W_move rfl rfl ?_))))))
 refine W_x (X_ptrNil rfl rfl ty55) (fun _ h=>by cases h) rfl ?_
 refine W_assign rfl rfl (W_nil (W_condF rfl rfl (W_sr (W_move rfl rfl (W_bin rfl rfl b_lss rfl ?_)))))
 first | rw [decide_eq_true (by omega)] | rw [decide_eq_false (by omega)]
 refine W_move rfl rfl (W_gno rfl rfl rfl ?_)
 refine W_gno rfl rfl rfl ?_
 first | refine W_pickt rfl rfl rfl ?_ | refine W_pickf rfl rfl rfl ?_
 refine W_assign rfl rfl (W_nil (W_condT rfl rfl (W_sr (W_assign rfl rfl (W_nil (W_ret1m (H2:=H) Tryz.results165 rfl (.nil _) zH ?_))))))
 exact ⟨rfl,rfl⟩
theorem with_hi {tb:Nat} {id:Int} {f:Value} (hi:256≤id):Pure Tryz.prog (fun _=>True) 165 [.pointer (some ⟨tb,0,none⟩),.int .i64 id,f] (.int .i64 2):=by
 intro w0 H hT
 refine L_enter Tryz.func165 rfl Tryz.ntmps165 rfl rfl ?_
 refine W_sr (W_assign rfl rfl (W_nil (W_seq (W_block (W_sr (W_move rfl rfl ?_))))))
 refine W_x (X_ptrNil rfl rfl ty55) (fun _ h=>by cases h) rfl ?_
 refine W_assign rfl rfl (W_nil (W_condF rfl rfl (W_sr (W_move rfl rfl (W_bin rfl rfl b_lss rfl ?_)))))
 first | rw [decide_eq_true (by omega)] | rw [decide_eq_false (by omega)]
 refine W_move rfl rfl (W_gyes rfl rfl (W_move rfl rfl (W_gyes rfl rfl (W_bin rfl rfl b_geq rfl ?_))))
 first | rw [decide_eq_true (by omega)] | rw [decide_eq_false (by omega)]
 first | refine W_pickt rfl rfl rfl ?_ | refine W_pickf rfl rfl rfl ?_
 refine W_assign rfl rfl (W_nil (W_condT rfl rfl (W_sr (W_assign rfl rfl (W_nil (W_ret1m (H2:=H) Tryz.results165 rfl (.nil _) zH ?_))))))
 exact ⟨rfl,rfl⟩
theorem with_out {tb:Nat} {id:Int} {f:Value} (hi:¬ (0≤id∧id<256)):Pure Tryz.prog (fun _=>True) 165 [.pointer (some ⟨tb,0,none⟩),.int .i64 id,f] (.int .i64 2):=by
 by_cases h:id<0
 ·exact with_lo h
 ·exact with_hi zO
theorem with_in {w0:World} {H:Heap} {tb i fi:Nat} {ca:List Value} {R:Value→Heap→Prop} (hfi:∀ (args:Array Value) (w:World),(callFunc fi args).run Tryz.prog w=.ok (.enter fi args) w) (hi:i<256) (hdo:LCalls Tryz.prog w0 fi (#[]++#[.pointer (some ⟨tb,2+i*4,none⟩)]++ca.toArray) H R) (hE:∀ v H2,R v H2→∃ e,v=.int .i64 e) :LCalls Tryz.prog w0 165 #[.pointer (some ⟨tb,0,none⟩),.int .i64 (i:Int),Value.func (.func fi) #[] ca.toArray] (H) (R):=by
 refine L_enter (l:=[.pointer (some ⟨tb,0,none⟩),.int .i64 (i:Int),Value.func (.func fi) #[] ca.toArray]) Tryz.func165 rfl Tryz.ntmps165 rfl rfl ?_
 refine W_sr (W_assign rfl rfl (W_nil (W_seq (W_block (W_sr (W_move rfl rfl ?_))))))
 refine W_x (X_ptrNil rfl rfl ty55) (fun _ h=>by cases h) rfl ?_
 refine W_assign rfl rfl (W_nil (W_condF rfl rfl (W_sr (W_move rfl rfl (W_bin rfl rfl b_lss rfl ?_)))))
 first | rw [decide_eq_true (by omega)] | rw [decide_eq_false (by omega)]
 refine W_move rfl rfl (W_gyes rfl rfl (W_move rfl rfl (W_gyes rfl rfl (W_bin rfl rfl b_geq rfl ?_))))
 first | rw [decide_eq_true (by omega)] | rw [decide_eq_false (by omega)]
 first | refine W_pickt rfl rfl rfl ?_ | refine W_pickf rfl rfl rfl ?_
 refine W_assign rfl rfl (W_nil (W_condF rfl rfl (W_skip (W_blk (W_sr (W_move rfl rfl (W_move rfl rfl ?_)))))))
 refine W_move rfl rfl (W_nilCheck rfl rfl (W_fieldAddr rfl fld170_2 zd rfl ?_))
 refine W_indexAddrA (j:=i) rfl rfl ty168 ty153 (by first | rfl | omega) (by first | decide | omega | simp) rfl rfl ?_
 refine W_callv (fa:=#[]) (ca:=ca.toArray) rfl (.cons rfl .nil) hfi rfl (hdo) ?_
 rintro v H' hR
 refine W_assign rfl rfl (W_nil (W_ret1m (H2:=H') Tryz.results165 rfl (.nil _) zH ?_))
 exact hR
theorem open1_gone {w0:World} {H:Heap} {tb i b5:Nat} {pb bb:Nat} {As:List Tone} {o:Tone} (hA:As[i]?=some o) (hm:(tb,.cells 170 1026 (tmRow pb bb As))∈H) (hs:o.shut=true) :PureAt Tryz.prog w0 H 166 [.pointer (some ⟨tb,2+i*4,none⟩),.pointer (some ⟨b5,0,none⟩)] (.int .i64 22):=by
 refine L_enter Tryz.func166 rfl Tryz.ntmps166 rfl rfl ?_
 refine W_sr (W_assign rfl rfl (W_nil (W_seq (W_sr (W_move rfl rfl (W_nilCheck rfl rfl (W_fieldAddr rfl fld153_1 zd rfl ?_)))))))
 refine W_load (v:=.bool true) rfl ty4 rfl (Cell.own (b:=tb) hm (hs ▸ tm_get1 hA)) rfl ?_
 refine W_nil (W_condT rfl rfl (W_sr (W_assign rfl rfl (W_nil (W_ret1m (H2:=H) Tryz.results166 rfl (.nil _) zH ?_)))))
 exact ⟨rfl,rfl⟩
theorem open1_in {w0:World} {H:Heap} {tb i fi b5:Nat} {ca:List Value} {R:Value→Heap→Prop} (hfi:∀ (args:Array Value) (w:World),(callFunc fi args).run Tryz.prog w=.ok (.enter fi args) w) {pb bb:Nat} {As:List Tone} {o:Tone} (hA:As[i]?=some o) (hm:(tb,.cells 170 1026 (tmRow pb bb As))∈H) (hs:o.shut=false) (hdo:LCalls Tryz.prog w0 fi (#[]++#[.pointer (some ⟨tb,2+i*4,none⟩)]++ca.toArray) H R) :LCalls Tryz.prog w0 166 #[.pointer (some ⟨tb,2+i*4,none⟩),.pointer (some ⟨b5,0,none⟩)] ((b5,.cells 154 1 [Value.func (.func fi) #[] ca.toArray])::H) (R):=by
 refine L_enter (l:=[.pointer (some ⟨tb,2+i*4,none⟩),.pointer (some ⟨b5,0,none⟩)]) Tryz.func166 rfl Tryz.ntmps166 rfl rfl ?_
 refine W_sr (W_assign rfl rfl (W_nil (W_seq (W_sr (W_move rfl rfl (W_nilCheck rfl rfl (W_fieldAddr rfl fld153_1 zd rfl ?_)))))))
 refine W_load (v:=.bool false) rfl ty4 rfl (Cell.own (b:=tb) (List.mem_cons_of_mem _ hm) (hs ▸ tm_get1 hA)) rfl ?_
 refine W_nil (W_condF rfl rfl (W_skip (W_sr (W_load (v:=Value.func (.func fi) #[] ca.toArray) rfl ty154 rfl (Cell.own (b:=b5) zM rfl) rfl ?_))))
 refine W_move rfl rfl (W_callv (fa:=#[]) (ca:=ca.toArray) rfl (.cons rfl .nil) hfi rfl (hdo.hsub zH) ?_)
 rintro v H' hR
 refine W_assign rfl rfl (W_nil (W_ret1m (H2:=H') Tryz.results166 rfl (.nil _) zH ?_))
 exact hR
theorem open_out {tb:Nat} {id:Int} {fi:Nat} {fa ca:Array Value} (hi:¬ (0≤id∧id<256)):Pure Tryz.prog (fun _=>True) 76 [.pointer (some ⟨tb,0,none⟩),.int .i64 id,.func (.func fi) fa ca] (.int .i64 2):=by
 intro w0 H hT
 refine L_enter Tryz.func76 rfl Tryz.ntmps76 rfl rfl ?_
 refine W_sr ?_
 refine W_box (l:=[.func (.func fi) fa ca]) rfl rfl rfl (fun b5=>?_)
 refine W_assign rfl rfl (W_nil (W_sr (W_move rfl rfl (W_move rfl rfl (W_makeFunc .nil (.cons rfl .nil) rfl ?_)))))
 refine W_callp (.cons rfl (.cons rfl (.cons rfl .nil))) Tryz.call165 rfl (T:=fun _=>True) trivial (with_out hi) ?_
 refine W_assign rfl rfl (W_nil (W_ret1m (H2:=H) Tryz.results76 rfl (.nil _) zH ?_))
 exact ⟨rfl,rfl⟩
theorem open_gone {w0:World} {H:Heap} {tb i fi:Nat} {ca:List Value} (hi:i<256) {pb bb:Nat} {As:List Tone} {o:Tone} (hA:As[i]?=some o) (hm:(tb,.cells 170 1026 (tmRow pb bb As))∈H) (hs:o.shut=true) :LCalls Tryz.prog w0 76 #[.pointer (some ⟨tb,0,none⟩),.int .i64 (i:Int),Value.func (.func fi) #[] ca.toArray] (H) (fun v H'=>v=.int .i64 22∧H'=H):=by
 refine L_enter (l:=[.pointer (some ⟨tb,0,none⟩),.int .i64 (i:Int),Value.func (.func fi) #[] ca.toArray]) Tryz.func76 rfl Tryz.ntmps76 rfl rfl ?_
 refine W_sr ?_
 refine W_box (l:=[Value.func (.func fi) #[] ca.toArray]) rfl rfl rfl (fun b5=>?_)
 refine W_assign rfl rfl (W_nil (W_sr (W_move rfl rfl (W_move rfl rfl (W_makeFunc .nil (.cons rfl .nil) rfl ?_)))))
 refine W_call (.cons rfl (.cons rfl (.cons rfl .nil))) Tryz.call165 rfl (with_in (i:=i) (fi:=166) (ca:=[.pointer (some ⟨b5,0,none⟩)]) Tryz.call166 hi (open1_gone hA (List.mem_cons_of_mem _ hm) hs) ?_) ?_
 ·rintro v H' ⟨rfl,rfl⟩
  exact ⟨_,rfl⟩
 rintro v H' ⟨rfl,rfl⟩
 refine W_assign rfl rfl (W_nil (W_ret1m (H2:=H) Tryz.results76 rfl (.nil _) zH ?_))
 exact ⟨rfl,rfl⟩
theorem open_in {w0:World} {H:Heap} {tb i fi:Nat} {ca:List Value} {R:Value→Heap→Prop} (hfi:∀ (args:Array Value) (w:World),(callFunc fi args).run Tryz.prog w=.ok (.enter fi args) w) (hi:i<256) {pb bb:Nat} {As:List Tone} {o:Tone} (hA:As[i]?=some o) (hm:(tb,.cells 170 1026 (tmRow pb bb As))∈H) (hs:o.shut=false) (hdo:LCalls Tryz.prog w0 fi (#[]++#[.pointer (some ⟨tb,2+i*4,none⟩)]++ca.toArray) H R) (hE:∀ v H2,R v H2→∃ e,v=.int .i64 e) :LCalls Tryz.prog w0 76 #[.pointer (some ⟨tb,0,none⟩),.int .i64 (i:Int),Value.func (.func fi) #[] ca.toArray] (H) (R):=by
 refine L_enter (l:=[.pointer (some ⟨tb,0,none⟩),.int .i64 (i:Int),Value.func (.func fi) #[] ca.toArray]) Tryz.func76 rfl Tryz.ntmps76 rfl rfl ?_
 refine W_sr ?_
 refine W_box (l:=[Value.func (.func fi) #[] ca.toArray]) rfl rfl rfl (fun b5=>?_)
 refine W_assign rfl rfl (W_nil (W_sr (W_move rfl rfl (W_move rfl rfl (W_makeFunc .nil (.cons rfl .nil) rfl ?_)))))
 refine W_call (.cons rfl (.cons rfl (.cons rfl .nil))) Tryz.call165 rfl (with_in (i:=i) (fi:=166) (ca:=[.pointer (some ⟨b5,0,none⟩)]) Tryz.call166 hi (open1_in hfi hA hm hs hdo) ?_) ?_
 ·exact hE
 rintro v H' hR
 refine W_assign rfl rfl (W_nil (W_ret1m (H2:=H') Tryz.results76 rfl (.nil _) zH ?_))
 exact hR
abbrev St:=List (Nat × List Tm)
structure Rw where
 now:Nat
 L:List Tm
 ad:Option Addr
 cap:Nat
def Rw.nl (d:Rw):Nat × List Tm:=(d.now,d.L)
def Wl.nl (w:Wl):Nat × List Tm:=(w.now,w.L)
abbrev stW (Ws:List Wl):St:=Ws.map Wl.nl
def delS (S:St) (id:Int):St:=S.map (fun x=>(x.1,delT x.2 id))
theorem delW_one (Ws:List Wl) (id:Int):stW (Ws.map (delW [id]))=delS (stW Ws) id:=by
 unfold stW delS
 rw [List.map_map,List.map_map]
 exact List.map_congr_left fun w _=>rfl
def UniS (S:St):Prop:=∀ (i j:Nat) x y,S[i]?=some x→S[j]?=some y→∀ t∈x.2,∀ u∈y.2,t.id=u.id→i=j
theorem UniS.del {S:St} (h:UniS S) (id:Int):UniS (delS S id):=fun i j x y hx hy t ht u hu e=>by
 unfold delS at hx hy
 rw [List.getElem?_map] at hx hy
 obtain ⟨x',hx',rfl⟩:=Option.map_eq_some_iff.1 hx
 obtain ⟨y',hy',rfl⟩:=Option.map_eq_some_iff.1 hy
 exact h i j x' y' hx' hy' t (List.mem_filter.1 ht).1 u (List.mem_filter.1 hu).1 e
structure BOk (T:Nat) (Ws:List Wl):Prop where
 now:∀ w∈Ws,w.now≤18446744073709551615
 later:∀ w∈Ws,∀ t∈w.L,w.now<t.s.due
 turn:∀ w∈Ws,w.turn≤T
 uni:UniS (stW Ws)
theorem BOk.start {now:Nat} {Ws:List Wl} (hn:now≤18446744073709551615) (hf:∀ w∈Ws,FreshW now w):BOk 0 Ws:=by
 refine ⟨fun w hw=>?_,fun w hw t ht=>?_,fun w hw=>?_,fun i j x y hx _ t ht=>?_⟩
 ·rw [(hf w hw).1]; exact hn
 ·rw [(hf w hw).2.1] at ht; cases ht
 ·rw [(hf w hw).2.2]; exact Nat.le_refl _
 ·obtain ⟨w,hw,rfl⟩:=List.mem_map.1 (List.mem_of_getElem? hx)
  have ht2:t∈w.L:=ht
  rw [(hf w hw).2.1] at ht2; cases ht2
theorem BOk.up {T T':Nat} {Ws:List Wl} (h:BOk T Ws) (hl:T≤T'):BOk T' Ws:=⟨h.now,h.later,fun w hw=>Nat.le_trans (h.turn w hw) hl,h.uni⟩
theorem BOk.del {T:Nat} {Ws:List Wl} (h:BOk T Ws) (id:Int):BOk T (Ws.map (delW [id])):=by
 refine ⟨fun u hu=>?_,fun u hu t ht=>?_,fun u hu=>?_,by rw [delW_one]; exact h.uni.del id⟩
 ·obtain ⟨w,hw,rfl⟩:=List.mem_map.1 hu
  exact h.now w hw
 ·obtain ⟨w,hw,rfl⟩:=List.mem_map.1 hu
  exact h.later w hw t (List.mem_filter.1 ht).1
 ·obtain ⟨w,hw,rfl⟩:=List.mem_map.1 hu
  exact h.turn w hw
def initO (o:Tone):Tone × Int:=if o.shut=true then (o,22) else if o.made=true then (o,5) else ({ o with made:=true },0)
def setO (prog:Int) (o:Tone):Tone × Int:=if o.shut=true then (o,22) else if o.made=false then (o,1) else ({ o with prog:=prog+1 },0)
def onA (f:Tone→Tone × Int) (As:List Tone) (id:Int):List Tone × Int:=if 0≤id∧id<256 then (match As[id.toNat]? with
 | some o=>(As.set id.toNat (f o).1,(f o).2)
 | none=>(As,2)) else (As,2)
theorem onA_at {f:Tone→Tone × Int} {As:List Tone} {i:Nat} {o:Tone} (hi:i<256) (h:As[i]?=some o):onA f As (i:Int)=(As.set i (f o).1,(f o).2):=by
 unfold onA; rw [if_pos (by omega),show ((i:Nat):Int).toNat=i by omega,h]
theorem onA_out {f:Tone→Tone × Int} {As:List Tone} {id:Int} (h:¬ (0≤id∧id<256)):onA f As id=(As,2):=if_neg h
theorem set_self {As:List Tone} {i:Nat} {o:Tone} (h:As[i]?=some o):As.set i o=As:=set_same h
theorem init1_L {w0:World} {H:Heap} {pb bb tb i:Nat} {As:List Tone} {o:Tone} (hA:As[i]?=some o) (hs:o.shut=false):LCalls Tryz.prog w0 77 #[.pointer (some ⟨tb,2+i*4,none⟩)] ((tb,.cells 170 1026 (tmRow pb bb As))::H) (fun v H'=>v=.int .i64 (initO o).2∧H'=(tb,.cells 170 1026 (tmRow pb bb (As.set i (initO o).1)))::H):=by
 refine L_enter (l:=[.pointer (some ⟨tb,2+i*4,none⟩)]) Tryz.func77 rfl Tryz.ntmps77 rfl rfl ?_
 refine W_sr (W_assign rfl rfl (W_nil (W_seq (W_sr (W_move rfl rfl (W_nilCheck rfl rfl (W_fieldAddr rfl fld153_0 zd rfl ?_)))))))
 refine W_load (v:=.bool o.made) rfl ty4 rfl (Cell.own (b:=tb) zM (tm_get0 hA)) rfl ?_
 refine W_nil ?_
 refine W_condS rfl (fun c0=>?_) (fun c0=>?_)
 ·skip
  refine W_sr (W_assign rfl rfl (W_nil (W_ret1m Tryz.results77 rfl (.nil _) (.refl _) ?_)))
  have e:initO o=(o,5):=by unfold initO; rw [if_neg (by rw [hs]; decide),if_pos c0]
  rw [e,set_self hA]
  exact ⟨rfl,rfl⟩
 ·skip
  refine W_skip (W_sr (W_move rfl rfl (W_nilCheck rfl rfl (W_fieldAddr rfl fld153_0 zd rfl ?_))))
  refine W_store (l':=tmRow pb bb (As.set i { o with made:=true })) rfl rfl ty4 rfl rfl (b:=tb) zM (tm_lt hA zd) (tm_set0 hA) zU ?_
  refine W_nil (W_sr (W_assign rfl rfl (W_nil (W_ret1m Tryz.results77 rfl (.nil _) (.refl _) ?_))))
  have e:initO o=({ o with made:=true },0):=by unfold initO; rw [if_neg (by rw [hs]; decide),if_neg (by rw [c0]; decide)]
  rw [e]
  exact ⟨rfl,rfl⟩
theorem set1_L {w0:World} {H:Heap} {pb bb tb i:Nat} {As:List Tone} {o:Tone} (hA:As[i]?=some o) {b5:Nat} {prog:Int} (hs:o.shut=false) (hp:0≤prog∧prog<16):LCalls Tryz.prog w0 167 #[.pointer (some ⟨tb,2+i*4,none⟩),.pointer (some ⟨b5,0,none⟩)] ((tb,.cells 170 1026 (tmRow pb bb As))::(b5,.cells 3 1 [.int .i64 prog])::H) (fun v H'=>v=.int .i64 ((setO prog) o).2∧H'=(tb,.cells 170 1026 (tmRow pb bb (As.set i ((setO prog) o).1)))::H):=by
 refine L_enter (l:=[.pointer (some ⟨tb,2+i*4,none⟩),.pointer (some ⟨b5,0,none⟩)]) Tryz.func167 rfl Tryz.ntmps167 rfl rfl ?_
 refine W_sr (W_assign rfl rfl (W_nil (W_seq (W_sr (W_move rfl rfl (W_nilCheck rfl rfl (W_fieldAddr rfl fld153_0 zd rfl ?_)))))))
 refine W_load (v:=.bool o.made) rfl ty4 rfl (Cell.own (b:=tb) zM (tm_get0 hA)) rfl ?_
 refine W_not rfl rfl ?_
 refine W_nil ?_
 refine W_condS rfl (fun c0=>?_) (fun c0=>?_)
 ·simp only [cond_true,cond_false,Bool.and_eq_true,Bool.or_eq_true,Bool.and_eq_false_iff,Bool.or_eq_false_iff,decide_eq_true_eq,decide_eq_false_iff_not,Bool.not_eq_true',Bool.not_eq_false',ne_eq,Decidable.not_not] at c0
  refine W_sr (W_assign rfl rfl (W_nil (W_ret1m (H2:=(tb,.cells 170 1026 (tmRow pb bb As))::H) Tryz.results167 rfl (.nil _) zH ?_)))
  have e:setO prog o=(o,1):=by unfold setO; rw [if_neg (by rw [hs]; decide),if_pos c0]
  rw [e,set_self hA]
  exact ⟨rfl,rfl⟩
 ·simp only [cond_true,cond_false,Bool.and_eq_true,Bool.or_eq_true,Bool.and_eq_false_iff,Bool.or_eq_false_iff,decide_eq_true_eq,decide_eq_false_iff_not,Bool.not_eq_true',Bool.not_eq_false',ne_eq,Decidable.not_not] at c0
  refine W_skip (W_sr (W_move rfl rfl (W_load (v:=.int .i64 prog) rfl ty3 rfl (Cell.own (b:=b5) zM rfl) rfl ?_)))
  refine W_bin rfl rfl (b_add (m:=prog+1) (i64w zO)) rfl ?_
  refine W_nilCheck rfl rfl (W_fieldAddr rfl fld153_2 zd rfl ?_)
  refine W_store (l':=tmRow pb bb (As.set i { o with prog:=prog+1 })) rfl rfl ty3 rfl rfl (b:=tb) zM (tm_lt hA zd) (tm_set2 hA) zU ?_
  refine W_nil (W_sr (W_assign rfl rfl (W_nil (W_ret1m (H2:=(tb,.cells 170 1026 (tmRow pb bb (As.set i { o with prog:=prog+1 })))::H) Tryz.results167 rfl (.nil _) zH ?_))))
  have e:setO prog o=({ o with prog:=prog+1 },0):=by unfold setO; rw [if_neg (by rw [hs]; decide),if_neg (by rw [c0]; decide)]
  rw [e]
  exact ⟨rfl,rfl⟩
theorem Init_at {w0:World} {H:Heap} {pb bb tb i:Nat} {As:List Tone} {o:Tone} (hA:As[i]?=some o) (hi:i<256) :LCalls Tryz.prog w0 22 #[.pointer (some ⟨tb,0,none⟩),.int .i64 (i:Int)] ((tb,.cells 170 1026 (tmRow pb bb As))::H) (fun v H'=>v=.int .i64 (initO o).2∧H'=(tb,.cells 170 1026 (tmRow pb bb (As.set i (initO o).1)))::H):=by
 refine L_enter (l:=[.pointer (some ⟨tb,0,none⟩),.int .i64 (i:Int)]) Tryz.func22 rfl Tryz.ntmps22 rfl rfl ?_
 refine W_sr (W_assign rfl rfl (W_nil (W_sr (W_move rfl rfl (W_move rfl rfl ?_)))))
 cases hs:o.shut
 ·skip
  refine W_call (.cons rfl (.cons rfl (.cons rfl .nil))) Tryz.call76 rfl (open_in (ca:=[]) Tryz.call77 hi hA zM hs (init1_L (H:=H) hA hs) (by rintro v H2 ⟨rfl,_⟩; exact ⟨_,rfl⟩)) ?_
  rintro v H' ⟨rfl,rfl⟩
  refine W_assign rfl rfl (W_nil (W_ret1m Tryz.results22 rfl (.nil _) (.refl _) ?_))
  exact ⟨rfl,rfl⟩
 ·skip
  refine W_call (.cons rfl (.cons rfl (.cons rfl .nil))) Tryz.call76 rfl (open_gone (ca:=[]) hi hA zM hs) ?_
  rintro v H' ⟨rfl,rfl⟩
  refine W_assign rfl rfl (W_nil (W_ret1m Tryz.results22 rfl (.nil _) (.refl _) ?_))
  have e:initO o=(o,22):=by unfold initO; rw [if_pos hs]
  rw [e,set_self hA]
  exact ⟨rfl,rfl⟩
theorem Init_out {tb:Nat} {id:Int} (hi:¬ (0≤id∧id<256)):Pure Tryz.prog (fun _=>True) 22 [.pointer (some ⟨tb,0,none⟩),.int .i64 id] (.int .i64 2):=by
 intro w0 H hT
 refine L_enter Tryz.func22 rfl Tryz.ntmps22 rfl rfl ?_
 refine W_sr (W_assign rfl rfl (W_nil (W_sr (W_move rfl rfl (W_move rfl rfl ?_)))))
 refine W_callp (.cons rfl (.cons rfl (.cons rfl .nil))) Tryz.call76 rfl (T:=fun _=>True) trivial (open_out hi) ?_
 refine W_assign rfl rfl (W_nil (W_ret1m (H2:=H) Tryz.results22 rfl (.nil _) zH ?_))
 exact ⟨rfl,rfl⟩
theorem initO_rng {o:Tone} (h:0≤o.prog∧o.prog≤16):0≤(initO o).1.prog∧(initO o).1.prog≤16:=by
 unfold initO; split
 ·exact h
 ·split <;> exact h
theorem setO_rng {o:Tone} {prog:Int} (hp:0≤prog∧prog<16) (h:0≤o.prog∧o.prog≤16):0≤(setO prog o).1.prog∧(setO prog o).1.prog≤16:=by
 unfold setO; split
 ·exact h
 ·split
  ·exact h
  ·show 0≤prog+1∧prog+1≤16; omega
theorem Init_L {w0:World} {H:Heap} {HB:Heap} {tb n:Nat} {Ws:List Wl} {Q Rs:List (Int × Int)} {As:List Tone} (hT:TimerH tb n Ws Q Rs As HB) {id:Int}:LCalls Tryz.prog w0 22 #[.pointer (some ⟨tb,0,none⟩),.int .i64 id] (HB++H) (fun v H'=>∃ HB',TimerH tb n Ws Q Rs (onA initO As id).1 HB'∧v=.int .i64 (onA initO As id).2∧H'=HB'++H):=by
 by_cases hi:0≤id∧id<256
 ·obtain ⟨i,rfl⟩:∃ i:Nat,id=(i:Int):=⟨id.toNat,by omega⟩
  cases hT with
  | @mk pb bb HP HBk hP hB hA hn =>
   obtain ⟨o,ho⟩:=hA.at (i:=i) zO
   refine (Init_at (H:=(HP++HBk)++H) ho zO).mono ?_
   rintro v H' ⟨rfl,rfl⟩
   rw [onA_at (by omega) ho]
   exact ⟨_,.mk hP hB (hA.set i (initO_rng (hA.rng o (List.mem_of_getElem? ho)))) hn,rfl,rfl⟩
 ·rw [onA_out hi]
  refine (Init_out hi w0 _ trivial).mono ?_
  rintro v H' ⟨rfl,rfl⟩
  exact ⟨HB,hT,rfl,rfl⟩
theorem Set_lo {tb:Nat} {id prog:Int} (hp:prog<0):Pure Tryz.prog (fun _=>True) 79 [.pointer (some ⟨tb,0,none⟩),.int .i64 id,.int .i64 prog] (.int .i64 2):=by
 intro w0 H hT
 refine L_enter Tryz.func79 rfl Tryz.ntmps79 rfl rfl ?_
 refine W_sr ?_
 refine W_box (l:=[.int .i64 prog]) rfl rfl rfl (fun b5=>?_)
 refine W_assign rfl rfl (W_nil (W_seq (W_sr (W_move rfl rfl ?_))))
 refine W_x (X_ptrNotNil rfl rfl ty55) (fun _ h=>by cases h) rfl ?_
 refine W_move rfl rfl (W_gyes rfl rfl (W_load (v:=.int .i64 prog) rfl ty3 rfl (Cell.own (b:=b5) zM rfl) rfl ?_))
 refine W_gyes rfl rfl (W_bin rfl rfl b_lss rfl ?_)
 first | rw [decide_eq_true (by omega)] | rw [decide_eq_false (by omega)]
 refine W_gyes rfl rfl (W_move rfl rfl (W_gno rfl rfl rfl ?_))
 refine W_gno rfl rfl rfl ?_
 refine W_gyes rfl rfl ?_
 first | refine W_pickt rfl rfl rfl ?_ | refine W_pickf rfl rfl rfl ?_
 first | refine W_pickt rfl rfl rfl ?_ | refine W_pickf rfl rfl rfl ?_
 refine W_nil (W_condT rfl rfl (W_sr (W_assign rfl rfl (W_nil (W_ret1m (H2:=H) Tryz.results79 rfl (.nil _) zH ?_)))))
 exact ⟨rfl,rfl⟩
theorem Set_hi {tb:Nat} {id prog:Int} (hp:16≤prog):Pure Tryz.prog (fun _=>True) 79 [.pointer (some ⟨tb,0,none⟩),.int .i64 id,.int .i64 prog] (.int .i64 2):=by
 intro w0 H hT
 refine L_enter Tryz.func79 rfl Tryz.ntmps79 rfl rfl ?_
 refine W_sr ?_
 refine W_box (l:=[.int .i64 prog]) rfl rfl rfl (fun b5=>?_)
 refine W_assign rfl rfl (W_nil (W_seq (W_sr (W_move rfl rfl ?_))))
 refine W_x (X_ptrNotNil rfl rfl ty55) (fun _ h=>by cases h) rfl ?_
 refine W_move rfl rfl (W_gyes rfl rfl (W_load (v:=.int .i64 prog) rfl ty3 rfl (Cell.own (b:=b5) zM rfl) rfl ?_))
 refine W_gyes rfl rfl (W_bin rfl rfl b_lss rfl ?_)
 first | rw [decide_eq_true (by omega)] | rw [decide_eq_false (by omega)]
 refine W_gyes rfl rfl (W_move rfl rfl (W_gyes rfl rfl (W_load (v:=.int .i64 prog) rfl ty3 rfl (Cell.own (b:=b5) zM rfl) rfl ?_)))
 refine W_gyes rfl rfl (W_bin rfl rfl b_geq rfl ?_)
 first | rw [decide_eq_true (by omega)] | rw [decide_eq_false (by omega)]
 refine W_gyes rfl rfl ?_
 first | refine W_pickt rfl rfl rfl ?_ | refine W_pickf rfl rfl rfl ?_
 first | refine W_pickt rfl rfl rfl ?_ | refine W_pickf rfl rfl rfl ?_
 refine W_nil (W_condT rfl rfl (W_sr (W_assign rfl rfl (W_nil (W_ret1m (H2:=H) Tryz.results79 rfl (.nil _) zH ?_)))))
 exact ⟨rfl,rfl⟩
theorem Set_out {tb:Nat} {id prog:Int} (hp:0≤prog∧prog<16) (hi:¬ (0≤id∧id<256)):Pure Tryz.prog (fun _=>True) 79 [.pointer (some ⟨tb,0,none⟩),.int .i64 id,.int .i64 prog] (.int .i64 2):=by
 intro w0 H hT
 refine L_enter Tryz.func79 rfl Tryz.ntmps79 rfl rfl ?_
 refine W_sr ?_
 refine W_box (l:=[.int .i64 prog]) rfl rfl rfl (fun b5=>?_)
 refine W_assign rfl rfl (W_nil (W_seq (W_sr (W_move rfl rfl ?_))))
 refine W_x (X_ptrNotNil rfl rfl ty55) (fun _ h=>by cases h) rfl ?_
 refine W_move rfl rfl (W_gyes rfl rfl (W_load (v:=.int .i64 prog) rfl ty3 rfl (Cell.own (b:=b5) zM rfl) rfl ?_))
 refine W_gyes rfl rfl (W_bin rfl rfl b_lss rfl ?_)
 first | rw [decide_eq_true (by omega)] | rw [decide_eq_false (by omega)]
 refine W_gyes rfl rfl (W_move rfl rfl (W_gyes rfl rfl (W_load (v:=.int .i64 prog) rfl ty3 rfl (Cell.own (b:=b5) zM rfl) rfl ?_)))
 refine W_gyes rfl rfl (W_bin rfl rfl b_geq rfl ?_)
 first | rw [decide_eq_true (by omega)] | rw [decide_eq_false (by omega)]
 refine W_gyes rfl rfl ?_
 first | refine W_pickt rfl rfl rfl ?_ | refine W_pickf rfl rfl rfl ?_
 first | refine W_pickt rfl rfl rfl ?_ | refine W_pickf rfl rfl rfl ?_
 refine W_nil (W_condF rfl rfl (W_skip (W_sr (W_move rfl rfl (W_move rfl rfl (W_makeFunc .nil (.cons rfl .nil) rfl ?_))))))
 refine W_callp (.cons rfl (.cons rfl (.cons rfl .nil))) Tryz.call76 rfl (T:=fun _=>True) trivial (open_out hi) ?_
 refine W_assign rfl rfl (W_nil (W_ret1m (H2:=H) Tryz.results79 rfl (.nil _) zH ?_))
 exact ⟨rfl,rfl⟩
theorem Set_at {w0:World} {H:Heap} {pb bb tb i:Nat} {As:List Tone} {o:Tone} (hA:As[i]?=some o) {prog:Int} (hi:i<256) (hp:0≤prog∧prog<16) :LCalls Tryz.prog w0 79 #[.pointer (some ⟨tb,0,none⟩),.int .i64 (i:Int),.int .i64 prog] ((tb,.cells 170 1026 (tmRow pb bb As))::H) (fun v H'=>v=.int .i64 ((setO prog) o).2∧H'=(tb,.cells 170 1026 (tmRow pb bb (As.set i ((setO prog) o).1)))::H):=by
 refine L_enter (l:=[.pointer (some ⟨tb,0,none⟩),.int .i64 (i:Int),.int .i64 prog]) Tryz.func79 rfl Tryz.ntmps79 rfl rfl ?_
 refine W_sr ?_
 refine W_box (l:=[.int .i64 prog]) rfl rfl rfl (fun b5=>?_)
 refine W_assign rfl rfl (W_nil (W_seq (W_sr (W_move rfl rfl ?_))))
 refine W_x (X_ptrNotNil rfl rfl ty55) (fun _ h=>by cases h) rfl ?_
 refine W_move rfl rfl (W_gyes rfl rfl (W_load (v:=.int .i64 prog) rfl ty3 rfl (Cell.own (b:=b5) zM rfl) rfl ?_))
 refine W_gyes rfl rfl (W_bin rfl rfl b_lss rfl ?_)
 first | rw [decide_eq_true (by omega)] | rw [decide_eq_false (by omega)]
 refine W_gyes rfl rfl (W_move rfl rfl (W_gyes rfl rfl (W_load (v:=.int .i64 prog) rfl ty3 rfl (Cell.own (b:=b5) zM rfl) rfl ?_)))
 refine W_gyes rfl rfl (W_bin rfl rfl b_geq rfl ?_)
 first | rw [decide_eq_true (by omega)] | rw [decide_eq_false (by omega)]
 refine W_gyes rfl rfl ?_
 first | refine W_pickt rfl rfl rfl ?_ | refine W_pickf rfl rfl rfl ?_
 first | refine W_pickt rfl rfl rfl ?_ | refine W_pickf rfl rfl rfl ?_
 refine W_nil (W_condF rfl rfl (W_skip (W_sr (W_move rfl rfl (W_move rfl rfl (W_makeFunc .nil (.cons rfl .nil) rfl ?_))))))
 cases hs:o.shut
 ·skip
  refine W_call (.cons rfl (.cons rfl (.cons rfl .nil))) Tryz.call76 rfl ((open_in (R:=fun v H'=>v=.int .i64 (setO prog o).2∧H'=(tb,.cells 170 1026 (tmRow pb bb (As.set i (setO prog o).1)))::H) (ca:=[.pointer (some ⟨b5,0,none⟩)]) Tryz.call167 hi hA zM hs (H:=(tb,.cells 170 1026 (tmRow pb bb As))::(b5,.cells 3 1 [.int .i64 prog])::H) (set1_L (H:=H) hA hs hp) (by rintro v H2 ⟨rfl,_⟩; exact ⟨_,rfl⟩)).hsub zH) ?_
  rintro v H' ⟨rfl,rfl⟩
  refine W_assign rfl rfl (W_nil (W_ret1m (H2:=(tb,.cells 170 1026 (tmRow pb bb (As.set i (setO prog o).1)))::H) Tryz.results79 rfl (.nil _) zH ?_))
  exact ⟨rfl,rfl⟩
 ·skip
  refine W_call (.cons rfl (.cons rfl (.cons rfl .nil))) Tryz.call76 rfl ((open_gone (ca:=[.pointer (some ⟨b5,0,none⟩)]) (H:=(tb,.cells 170 1026 (tmRow pb bb As))::(b5,.cells 3 1 [.int .i64 prog])::H) hi hA zM hs).hsub zH) ?_
  rintro v H' ⟨rfl,rfl⟩
  refine W_assign rfl rfl (W_nil (W_ret1m (H2:=(tb,.cells 170 1026 (tmRow pb bb As))::H) Tryz.results79 rfl (.nil _) zH ?_))
  have e:setO prog o=(o,22):=by unfold setO; rw [if_pos hs]
  rw [e,set_self hA]
  exact ⟨rfl,rfl⟩
def setA (As:List Tone) (id prog:Int):List Tone × Int:=if 0≤prog∧prog<16 then onA (setO prog) As id else (As,2)
theorem Set_L {w0:World} {H:Heap} {HB:Heap} {tb n:Nat} {Ws:List Wl} {Q Rs:List (Int × Int)} {As:List Tone} (hT:TimerH tb n Ws Q Rs As HB) {id prog:Int}:LCalls Tryz.prog w0 79 #[.pointer (some ⟨tb,0,none⟩),.int .i64 id,.int .i64 prog] (HB++H) (fun v H'=>∃ HB',TimerH tb n Ws Q Rs (setA As id prog).1 HB'∧v=.int .i64 (setA As id prog).2∧H'=HB'++H):=by
 unfold setA
 by_cases hp:0≤prog∧prog<16
 ·rw [if_pos hp]
  by_cases hi:0≤id∧id<256
  ·obtain ⟨i,rfl⟩:∃ i:Nat,id=(i:Int):=⟨id.toNat,by omega⟩
   cases hT with
   | @mk pb bb HP HBk hP hB hA hn =>
    obtain ⟨o,ho⟩:=hA.at (i:=i) zO
    refine (Set_at (H:=(HP++HBk)++H) ho zO hp).mono ?_
    rintro v H' ⟨rfl,rfl⟩
    rw [onA_at (by omega) ho]
    exact ⟨_,.mk hP hB (hA.set i (setO_rng hp (hA.rng o (List.mem_of_getElem? ho)))) hn,rfl,rfl⟩
  ·rw [onA_out hi]
   refine (Set_out hp hi w0 _ trivial).mono ?_
   rintro v H' ⟨rfl,rfl⟩
   exact ⟨HB,hT,rfl,rfl⟩
 ·rw [if_neg hp]
  by_cases h0:prog<0
  ·refine (Set_lo h0 w0 _ trivial).mono ?_
   rintro v H' ⟨rfl,rfl⟩
   exact ⟨HB,hT,rfl,rfl⟩
  ·refine (Set_hi zO w0 _ trivial).mono ?_
   rintro v H' ⟨rfl,rfl⟩
   exact ⟨HB,hT,rfl,rfl⟩
def wasT (Ws:List Wl) (Q:List (Int × Int)) (z:Int):Bool:=decide (0<cntK Ws [z] Ws.length+(delsQ Q [z]).2)
theorem take_L {w0:World} {H:Heap} {tb pb bb n:Nat} {HP HBk:Heap} {Ws:List Wl} {Q Rs:List (Int × Int)} {As:List Tone} (hP:PendH pb n Q Rs HP) (hB:BankH bb Ws HBk) (hn:Ws.length=n∧n≤64) {z:Int} :LCalls Tryz.prog w0 91 #[.pointer (some ⟨tb,0,none⟩),.int .i64 z] ((tb,.cells 170 1026 (tmRow pb bb As))::(HP++(HBk++H))) (fun v H'=>∃ HP2 HB2,PendH pb n (delQ Q z) Rs HP2∧BankH bb (Ws.map (delW [z])) HB2∧v=.bool (wasT Ws Q z)∧H'=(tb,.cells 170 1026 (tmRow pb bb As))::(HP2++(HB2++H))):=by
 have hc1:=cntK_le Ws [z] Ws.length
 have hc2:(delsQ Q [z]).2≤1:=delsQ_le Q [z] 1 (Nat.le_refl _)
 rw [List.length_singleton,Nat.mul_one] at hc1
 refine L_enter (l:=[.pointer (some ⟨tb,0,none⟩),.int .i64 z]) Tryz.func91 rfl Tryz.ntmps91 rfl rfl ?_
 refine W_sr (W_assign rfl rfl (W_nil (W_seq ?_)))
 refine W_cutX (X:=(Heap × Heap)) (fun _=>[(4,.bool (wasT Ws Q z))]) (fun x=>(tb,.cells 170 1026 (tmRow pb bb As))::(x.1++(x.2++H))) (fun x=>PendH pb n (delQ Q z) Rs x.1∧BankH bb (Ws.map (delW [z])) x.2) ?_ ?_
 ·skip
  refine W_anyC [(tb,.cells 170 1026 (tmRow pb bb As))] zk ?_
  refine WC_take 0 rfl zK zK zK rfl rfl (X_move rfl) rfl ?_
  refine WC_take 1 rfl zK zK zK rfl rfl (X_nilCheck rfl) rfl ?_
  refine WC_take 2 rfl zK zK zK rfl rfl (X_fieldAddr rfl fld170_1 zd) rfl ?_
  refine WC_take 3 rfl zK zK zK rfl rfl (X_load (v:=.pointer (some ⟨bb,0,none⟩)) rfl ty167 rfl (Cell.own (b:=tb) zM rfl)) rfl ?_
  refine WC_take 4 rfl zK zK zK rfl rfl (X_move rfl) rfl ?_
  refine WC_take 7 rfl zK zK zK rfl rfl (X_move rfl) rfl ?_
  refine WC_take 8 rfl zK zK zK rfl rfl (X_nilCheck rfl) rfl ?_
  refine WC_take 9 rfl zK zK zK rfl rfl (X_fieldAddr rfl fld170_0 zd) rfl ?_
  refine WC_take 10 rfl zK zK zK rfl rfl (X_load (v:=.pointer (some ⟨pb,0,none⟩)) rfl ty166 rfl (Cell.own (b:=tb) zM rfl)) rfl ?_
  refine WC_take 11 rfl zK zK zK rfl rfl (X_move rfl) rfl ?_
  refine WC_two 5 12 (l':=#[true,true,true,true,true,true,false,true,true,true,true,true,false,false,false,false,false]) (l'':=#[true,true,true,true,true,false,false,true,true,true,true,true,true,false,false,false,false]) zH zK rfl rfl zK zK ?_ ?_
  ·skip
   refine W_buildSlice (l:=[.int .i64 z]) ty63 ty3 (.cons rfl rfl rfl rfl rfl .nil) rfl rfl rfl rfl rfl rfl rfl (fun b10=>?_)
   refine W_nil ?_
   refine WC_goal ?_
   refine WC_two 6 12 (l':=#[true,true,true,true,true,true,true,true,true,true,true,true,false,false,false,false,false]) (l'':=#[true,true,true,true,true,true,false,true,true,true,true,true,true,false,false,false,false]) zH zK rfl rfl zK zK ?_ ?_
   ·skip
    refine W_call (.cons rfl (.cons rfl .nil)) Tryz.call178 rfl ((DelB_L hB zO (l:=[z]) (ad:=some ⟨b10,0,none⟩) (cap:=1) (by show 1≤4611686018427387904; decide) (by show 1≤1000000; decide) (Holds.own (b:=b10) zM) (H:=(b10,.cells 3 1 [.int .i64 z])::(tb,.cells 170 1026 (tmRow pb bb As))::(HP++H))).hsub zH) ?_
    rintro v H' ⟨HB2,hB2,rfl,rfl⟩
    refine W_nil ?_
    refine WC_goal ?_
    refine WC_one 12 zH zK rfl rfl ?_
    refine W_buildSlice (l:=[.int .i64 z]) ty63 ty3 (.cons rfl rfl rfl rfl rfl .nil) rfl rfl rfl rfl rfl rfl rfl (fun b17=>?_)
    refine W_nil ?_
    refine WC_goal ?_
    refine WC_one 13 zH zK rfl rfl ?_
    refine W_call (.cons rfl (.cons rfl .nil)) Tryz.call179 rfl ((pDel_L hP zO (ids:=[z]) (ad:=some ⟨b17,0,none⟩) (cap:=1) (by show 1≤1000000; decide) (Holds.own (b:=b17) zM) (H:=(b17,.cells 3 1 [.int .i64 z])::(tb,.cells 170 1026 (tmRow pb bb As))::(HB2++H))).hsub zH) ?_
    rintro v H' ⟨HP2,hP2,rfl,rfl⟩
    refine W_nil ?_
    refine WC_goal ?_
    refine WC_take 14 (l':=#[true,true,true,true,true,true,true,true,true,true,true,true,true,true,true,false,false]) rfl (by decide +kernel) (by decide +kernel) (by decide +kernel) rfl (by decide +kernel) (X_bin rfl rfl (b_add (m:=((cntK Ws [z] Ws.length+(delsQ Q [z]).2:Nat):Int)) (by rw [i64w (by omega)]; omega))) rfl ?_
    refine WC_take 15 rfl zK zK zK rfl rfl (X_bin rfl rfl b_gtr) rfl ?_
    rw [show decide ((0:Int)<((cntK Ws [z] Ws.length+(delsQ Q [z]).2:Nat):Int))=wasT Ws Q z from decide_eq_decide.2 (by omega)]
    refine WC_take 16 rfl zK zK zK rfl rfl (X_assign rfl) rfl ?_
    refine WC_done zH zK ?_
    refine W_joinX (HP2,HB2) ⟨hP2,hB2⟩ (sub_cons rfl (sub_nil _)) zH
   ·skip
    refine W_buildSlice (l:=[.int .i64 z]) ty63 ty3 (.cons rfl rfl rfl rfl rfl .nil) rfl rfl rfl rfl rfl rfl rfl (fun b17=>?_)
    refine W_nil ?_
    refine WC_goal ?_
    refine WC_one 6 zH zK rfl rfl ?_
    refine W_call (.cons rfl (.cons rfl .nil)) Tryz.call178 rfl ((DelB_L hB zO (l:=[z]) (ad:=some ⟨b10,0,none⟩) (cap:=1) (by show 1≤4611686018427387904; decide) (by show 1≤1000000; decide) (Holds.own (b:=b10) zM) (H:=(b10,.cells 3 1 [.int .i64 z])::(b17,.cells 3 1 [.int .i64 z])::(tb,.cells 170 1026 (tmRow pb bb As))::(HP++H))).hsub zH) ?_
    rintro v H' ⟨HB2,hB2,rfl,rfl⟩
    refine W_nil ?_
    refine WC_goal ?_
    refine WC_one 13 zH zK rfl rfl ?_
    refine W_call (.cons rfl (.cons rfl .nil)) Tryz.call179 rfl ((pDel_L hP zO (ids:=[z]) (ad:=some ⟨b17,0,none⟩) (cap:=1) (by show 1≤1000000; decide) (Holds.own (b:=b17) zM) (H:=(b17,.cells 3 1 [.int .i64 z])::(tb,.cells 170 1026 (tmRow pb bb As))::(HB2++H))).hsub zH) ?_
    rintro v H' ⟨HP2,hP2,rfl,rfl⟩
    refine W_nil ?_
    refine WC_goal ?_
    refine WC_take 14 (l':=#[true,true,true,true,true,true,true,true,true,true,true,true,true,true,true,false,false]) rfl (by decide +kernel) (by decide +kernel) (by decide +kernel) rfl (by decide +kernel) (X_bin rfl rfl (b_add (m:=((cntK Ws [z] Ws.length+(delsQ Q [z]).2:Nat):Int)) (by rw [i64w (by omega)]; omega))) rfl ?_
    refine WC_take 15 rfl zK zK zK rfl rfl (X_bin rfl rfl b_gtr) rfl ?_
    rw [show decide ((0:Int)<((cntK Ws [z] Ws.length+(delsQ Q [z]).2:Nat):Int))=wasT Ws Q z from decide_eq_decide.2 (by omega)]
    refine WC_take 16 rfl zK zK zK rfl rfl (X_assign rfl) rfl ?_
    refine WC_done zH zK ?_
    refine W_joinX (HP2,HB2) ⟨hP2,hB2⟩ (sub_cons rfl (sub_nil _)) zH
  ·skip
   refine W_buildSlice (l:=[.int .i64 z]) ty63 ty3 (.cons rfl rfl rfl rfl rfl .nil) rfl rfl rfl rfl rfl rfl rfl (fun b17=>?_)
   refine W_nil ?_
   refine WC_goal ?_
   refine WC_one 5 zH zK rfl rfl ?_
   refine W_buildSlice (l:=[.int .i64 z]) ty63 ty3 (.cons rfl rfl rfl rfl rfl .nil) rfl rfl rfl rfl rfl rfl rfl (fun b10=>?_)
   refine W_nil ?_
   refine WC_goal ?_
   refine WC_one 6 zH zK rfl rfl ?_
   refine W_call (.cons rfl (.cons rfl .nil)) Tryz.call178 rfl ((DelB_L hB zO (l:=[z]) (ad:=some ⟨b10,0,none⟩) (cap:=1) (by show 1≤4611686018427387904; decide) (by show 1≤1000000; decide) (Holds.own (b:=b10) zM) (H:=(b10,.cells 3 1 [.int .i64 z])::(b17,.cells 3 1 [.int .i64 z])::(tb,.cells 170 1026 (tmRow pb bb As))::(HP++H))).hsub zH) ?_
   rintro v H' ⟨HB2,hB2,rfl,rfl⟩
   refine W_nil ?_
   refine WC_goal ?_
   refine WC_one 13 zH zK rfl rfl ?_
   refine W_call (.cons rfl (.cons rfl .nil)) Tryz.call179 rfl ((pDel_L hP zO (ids:=[z]) (ad:=some ⟨b17,0,none⟩) (cap:=1) (by show 1≤1000000; decide) (Holds.own (b:=b17) zM) (H:=(b17,.cells 3 1 [.int .i64 z])::(tb,.cells 170 1026 (tmRow pb bb As))::(HB2++H))).hsub zH) ?_
   rintro v H' ⟨HP2,hP2,rfl,rfl⟩
   refine W_nil ?_
   refine WC_goal ?_
   refine WC_take 14 (l':=#[true,true,true,true,true,true,true,true,true,true,true,true,true,true,true,false,false]) rfl (by decide +kernel) (by decide +kernel) (by decide +kernel) rfl (by decide +kernel) (X_bin rfl rfl (b_add (m:=((cntK Ws [z] Ws.length+(delsQ Q [z]).2:Nat):Int)) (by rw [i64w (by omega)]; omega))) rfl ?_
   refine WC_take 15 rfl zK zK zK rfl rfl (X_bin rfl rfl b_gtr) rfl ?_
   rw [show decide ((0:Int)<((cntK Ws [z] Ws.length+(delsQ Q [z]).2:Nat):Int))=wasT Ws Q z from decide_eq_decide.2 (by omega)]
   refine WC_take 16 rfl zK zK zK rfl rfl (X_assign rfl) rfl ?_
   refine WC_done zH zK ?_
   refine W_joinX (HP2,HB2) ⟨hP2,hB2⟩ (sub_cons rfl (sub_nil _)) zH
 rintro ⟨HP2,HB2⟩ ⟨hP2,hB2⟩
 dsimp only at hP2 hB2 ⊢
 refine W_ret1m (H2:=(tb,.cells 170 1026 (tmRow pb bb As))::(HP2++(HB2++H))) Tryz.results91 rfl (.nil _) zH ?_
 exact ⟨HP2,HB2,hP2,hB2,rfl,rfl⟩
structure TOk (T:Nat) (Ws:List Wl) (As:List Tone):Prop where
 bank:BOk T Ws
 starts:∀ o∈As,0≤o.starts∧o.starts≤(T:Int)
theorem TOk.up {T T':Nat} {Ws:List Wl} {As:List Tone} (h:TOk T Ws As) (hl:T≤T'):TOk T' Ws As:=⟨h.bank.up hl,fun o ho=>by have:=h.starts o ho; omega⟩
theorem inner_q {w0:World} {H:Heap} {tb pb bb:Nat} {As:List Tone} (hm:(tb,.cells 170 1026 (tmRow pb bb As))∈H) :PureAt Tryz.prog w0 H 101 [.pointer (some ⟨tb,0,none⟩)] (.pointer (some ⟨pb,0,none⟩)):=by
 refine L_enter Tryz.func101 rfl Tryz.ntmps101 rfl rfl ?_
 refine W_sr (W_assign rfl rfl (W_nil (W_seq (W_sr (W_move rfl rfl ?_)))))
 refine W_x (X_ptrNil rfl rfl ty55) (fun _ h=>by cases h) rfl ?_
 refine W_nil (W_condF rfl rfl (W_skip (W_sr (W_move rfl rfl (W_nilCheck rfl rfl (W_fieldAddr rfl fld170_0 zd rfl ?_))))))
 refine W_load (v:=.pointer (some ⟨pb,0,none⟩)) rfl ty166 rfl (Cell.own (b:=tb) hm rfl) rfl ?_
 refine W_assign rfl rfl (W_nil (W_ret1m (H2:=H) Tryz.results101 rfl (.nil _) zH ?_))
 exact ⟨rfl,rfl⟩
theorem tRuns_at {w0:World} {H:Heap} {tb pb bb n:Nat} {HP HBk:Heap} {Ws:List Wl} {Q Rs:List (Int × Int)} {As:List Tone} (hP:PendH pb n Q Rs HP) (hn:Ws.length=n∧n≤64) (hm:∀ p∈((tb,.cells 170 1026 (tmRow pb bb As))::(HP++HBk)),p∈H) {id:Int} :PureAt Tryz.prog w0 H 157 [.pointer (some ⟨tb,0,none⟩),.int .i64 id] (optV (inR Rs id)):=by
 refine L_enter Tryz.func157 rfl Tryz.ntmps157 rfl rfl ?_
 refine W_sr (W_assign rfl rfl (W_assign rfl rfl (W_nil (W_sr (W_move rfl rfl (W_callq (.cons rfl .nil) Tryz.call101 rfl (inner_q (pb:=pb) (bb:=bb) (As:=As) (hm _ List.mem_cons_self)) ?_))))))
 refine W_move rfl rfl ?_
 refine W_callq (.cons rfl (.cons rfl .nil)) Tryz.call252 rfl (hP.Runs_q (id:=id) (fun p hp=>hm p (List.mem_cons_of_mem _ (List.mem_append_left _ hp)))) ?_
 obtain ⟨rx,rb,er⟩:∃ (x:Int) (b:Bool),optV (inR Rs id)=.tuple #[.int .i64 x,.bool b]:=by rcases optV_ways (inR Rs id) with ⟨_,e⟩ | ⟨cx,_,e⟩ <;> exact ⟨_,_,e⟩
 rw [er]
 refine W_extract rfl rfl rfl (W_extract rfl rfl rfl (W_assign rfl rfl (W_assign rfl rfl (W_nil (W_ret2m (H2:=H) Tryz.results157 rfl rfl (.nil _) zH ?_)))))
 exact ⟨rfl,rfl⟩
def shutA (s:List Wl × List (Int × Int) × List Tone × Nat) (id:Int):List Wl × List (Int × Int) × List Tone × Nat:=if 0≤id∧id<256 then (match s.2.2.1[id.toNat]? with
 | some o=>if o.shut=true then s else (s.1.map (delW [id]),delQ s.2.1 id,s.2.2.1.set id.toNat { o with shut:=true },s.2.2.2+1)
 | none=>s) else s
def shutsA (Ws:List Wl) (Q:List (Int × Int)) (As:List Tone) (ids:List Int):List Wl × List (Int × Int) × List Tone × Nat:=ids.foldl shutA (Ws,Q,As,0)
theorem shutsA_at {Ws:List Wl} {Q:List (Int × Int)} {As:List Tone} {ids:List Int} {i:Nat} {z:Int} (h:ids[i]?=some z):shutsA Ws Q As (ids.take (i+1))=shutA (shutsA Ws Q As (ids.take i)) z:=by
 unfold shutsA; rw [takeAt h,List.foldl_append]; rfl
theorem shutA_out {s:List Wl × List (Int × Int) × List Tone × Nat} {id:Int} (h:¬ (0≤id∧id<256)):shutA s id=s:=if_neg h
theorem shutA_at {s:List Wl × List (Int × Int) × List Tone × Nat} {i:Nat} {o:Tone} (hi:i<256) (h:s.2.2.1[i]?=some o):shutA s (i:Int)=if o.shut=true then s else (s.1.map (delW [(i:Int)]),delQ s.2.1 (i:Int),s.2.2.1.set i { o with shut:=true },s.2.2.2+1):=by
 unfold shutA; rw [if_pos (by omega),show ((i:Nat):Int).toNat=i by omega,h]
theorem shut_ways {As:List Tone} (hA:AsOk As) (z:Int):¬ (0≤z∧z<256)∨(∃ j o,z=((j:Nat):Int)∧j<256∧As[j]?=some o∧o.shut=true)∨(∃ j o,z=((j:Nat):Int)∧j<256∧As[j]?=some o∧o.shut=false):=by
 by_cases hi:0≤z∧z<256
 ·obtain ⟨j,rfl⟩:∃ j:Nat,z=(j:Int):=⟨z.toNat,by omega⟩
  obtain ⟨o,ho⟩:=hA.at (i:=j) zO
  cases hs:o.shut with
  | true=>exact .inr (.inl ⟨j,o,rfl,by omega,ho,hs⟩)
  | false=>exact .inr (.inr ⟨j,o,rfl,by omega,ho,hs⟩)
 ·exact .inl hi
structure ShS where
 i:Nat
 Ws:List Wl
 Q:List (Int × Int)
 As:List Tone
 c:Nat
 HP:Heap
 HB:Heap
theorem shut1_L {w0:World} {H:Heap} {tb pb bb n:Nat} {HP HBk:Heap} {Ws:List Wl} {Q Rs:List (Int × Int)} {As:List Tone} (hP:PendH pb n Q Rs HP) (hB:BankH bb Ws HBk) (hn:Ws.length=n∧n≤64) {i:Nat} {o:Tone} {z:Int} (hA:As[i]?=some o) {b2 b7:Nat} :LCalls Tryz.prog w0 243 #[.pointer (some ⟨tb,2+i*4,none⟩),.pointer (some ⟨b2,0,none⟩),.pointer (some ⟨b7,0,none⟩)] ((b2,.cells 55 1 [.pointer (some ⟨tb,0,none⟩)])::(b7,.cells 3 1 [.int .i64 z])::(tb,.cells 170 1026 (tmRow pb bb As))::(HP++(HBk++H))) (fun v H'=>∃ HP2 HB2,PendH pb n (delQ Q z) Rs HP2∧BankH bb (Ws.map (delW [z])) HB2∧v=.int .i64 0∧H'=(b2,.cells 55 1 [.pointer (some ⟨tb,0,none⟩)])::(b7,.cells 3 1 [.int .i64 z])::(tb,.cells 170 1026 (tmRow pb bb (As.set i { o with shut:=true })))::(HP2++(HB2++H))):=by
 refine L_enter (l:=[.pointer (some ⟨tb,2+i*4,none⟩),.pointer (some ⟨b2,0,none⟩),.pointer (some ⟨b7,0,none⟩)]) Tryz.func243 rfl Tryz.ntmps243 rfl rfl ?_
 refine W_sr (W_assign rfl rfl (W_nil (W_sr (W_load (v:=.pointer (some ⟨tb,0,none⟩)) rfl ty55 rfl (Cell.own (b:=b2) zM rfl) rfl ?_))))
 refine W_load (v:=.int .i64 z) rfl ty3 rfl (Cell.own (b:=b7) zM rfl) rfl ?_
 refine W_call (.cons rfl (.cons rfl .nil)) Tryz.call91 rfl ((take_L (z:=z) hP hB hn (As:=As) (H:=(b2,.cells 55 1 [.pointer (some ⟨tb,0,none⟩)])::(b7,.cells 3 1 [.int .i64 z])::H)).hsub zH) ?_
 rintro v H' ⟨HP2,HB2,hP2,hB2,rfl,rfl⟩
 refine W_nil (W_sr (W_move rfl rfl (W_nilCheck rfl rfl (W_fieldAddr rfl fld153_1 zd rfl ?_))))
 refine W_store (l':=tmRow pb bb (As.set i { o with shut:=true })) rfl rfl ty4 rfl rfl (b:=tb) zM (tm_lt hA zd) (tm_set1 hA) zU ?_
 refine W_nil (W_sr (W_assign rfl rfl (W_nil (W_ret1m (H2:=(b2,.cells 55 1 [.pointer (some ⟨tb,0,none⟩)])::(b7,.cells 3 1 [.int .i64 z])::(tb,.cells 170 1026 (tmRow pb bb (As.set i { o with shut:=true })))::(HP2++(HB2++H))) Tryz.results243 rfl (.nil _) zH ?_))))
 exact ⟨HP2,HB2,hP2,hB2,rfl,rfl⟩
theorem Shut_at {w0:World} {H:Heap} {tb pb bb n:Nat} {HP HBk:Heap} {Ws:List Wl} {Q Rs:List (Int × Int)} {As:List Tone} (hP:PendH pb n Q Rs HP) (hB:BankH bb Ws HBk) (hn:Ws.length=n∧n≤64) (hA:AsOk As) {ids:List Int} {ad:Option Addr} {cap:Nat} (hil:ids.length≤1000000) (hrow:Holds w0 H ad (ids.map (Value.int .i64))) :LCalls Tryz.prog w0 150 #[.pointer (some ⟨tb,0,none⟩),.slice ad ids.length cap] ((tb,.cells 170 1026 (tmRow pb bb As))::(HP++(HBk++H))) (fun v H'=>∃ HP2 HB2,PendH pb n (shutsA Ws Q As ids).2.1 Rs HP2∧BankH bb (shutsA Ws Q As ids).1 HB2∧AsOk (shutsA Ws Q As ids).2.2.1∧(shutsA Ws Q As ids).1.length=n∧v=.int .i64 ((shutsA Ws Q As ids).2.2.2:Nat)∧H'=(tb,.cells 170 1026 (tmRow pb bb (shutsA Ws Q As ids).2.2.1))::(HP2++(HB2++H))):=by
 refine L_enter (l:=[.pointer (some ⟨tb,0,none⟩),.slice ad ids.length cap]) Tryz.func150 rfl Tryz.ntmps150 rfl rfl ?_
 refine W_sr ?_
 refine W_box (l:=[.pointer (some ⟨tb,0,none⟩)]) rfl rfl rfl (fun b2=>?_)
 refine W_assign rfl rfl (W_nil (W_sr (W_assign rfl rfl (W_nil (W_seq (W_sr (W_move rfl rfl (W_len rfl ty63 rfl rfl ?_))))))))
 refine W_move rfl rfl (W_nil (W_block ?_))
 refine W_loopC (X:=ShS) [(2,_),(9,_),(10,_)] (fun (x:ShS)=>[(5,.int .i64 (x.c:Int)),(11,.int .i64 (x.i:Int))]) (fun _=>_) (fun (x:ShS)=>(b2,.cells 55 1 [.pointer (some ⟨tb,0,none⟩)])::(tb,.cells 170 1026 (tmRow pb bb x.As))::(x.HP++(x.HB++H))) (fun (x:ShS)=>x.i≤ids.length∧PendH pb n x.Q Rs x.HP∧BankH bb x.Ws x.HB∧(x.Ws.length=n∧n≤64)∧AsOk x.As∧shutsA Ws Q As (ids.take x.i)=(x.Ws,x.Q,x.As,x.c)∧x.c≤x.i) (fun (x:ShS)=>ids.length-x.i) ⟨0,Ws,Q,As,0,HP,HBk⟩ ⟨Nat.zero_le _,hP,hB,hn,hA,rfl,Nat.le_refl _⟩ (sub_cons rfl (sub_cons rfl (sub_cons rfl (sub_nil _)))) (sub_cons rfl (sub_cons rfl (sub_nil _))) rfl zH ?_
 rintro ⟨i,Ws1,Q1,As1,c1,HP1,HB1⟩ ⟨hil,hP1,hB1,hn1,hA1,hsh,hci⟩
 dsimp only at hil hP1 hB1 hn1 hA1 hsh hci ⊢
 simp only [List.cons_append,List.nil_append]
 refine W_sr (W_bin rfl rfl b_lss rfl ?_)
 refine W_nil (W_seq ?_)
 refine W_condPS (p:=(i:Int)<(ids.length:Int)) rfl (by simp) (fun q0=>?_) (fun q0=>?_)
 ·skip
  refine W_skip (W_seq (W_block (W_sr ?_)))
  obtain ⟨z,hz⟩:∃ z,ids[i]?=some z:=⟨_,List.getElem?_eq_getElem zO⟩
  obtain ⟨q0,p0,rfl,hcz⟩:=hrow.at (i:=i) (v:=.int .i64 z) (by rw [List.getElem?_map,hz]; rfl)
  refine W_indexAddr (j:=i) rfl rfl ty63 ty3 rfl zO rfl rfl ?_
  refine W_load (v:=.int .i64 z) rfl ty3 rfl (by rw [Nat.mul_one]; exact hcz.up zH) rfl ?_
  refine W_alloc (l:=[.int .i64 0]) ty3 rfl rfl (fun b7=>?_)
  refine W_store (l':=[.int .i64 z]) rfl rfl ty3 rfl rfl (b:=b7) zM rfl rfl zU ?_
  refine W_nil (W_sr (W_load (v:=.pointer (some ⟨tb,0,none⟩)) rfl ty55 rfl (Cell.own (b:=b2) zM rfl) rfl ?_))
  refine W_load (v:=.int .i64 z) rfl ty3 rfl (Cell.own (b:=b7) zM rfl) rfl ?_
  refine W_makeFunc .nil (.cons rfl (.cons rfl .nil)) rfl ?_
  rcases shut_ways hA1 z with hi | ⟨j,o,rfl,hj,ho,hs⟩ | ⟨j,o,rfl,hj,ho,hs⟩
  ·skip
   refine W_callp (.cons rfl (.cons rfl (.cons rfl .nil))) Tryz.call76 rfl (T:=fun _=>True) trivial (open_out hi) ?_
   refine W_assign rfl rfl (W_nil (W_sr (W_move rfl rfl (W_bin rfl rfl b_eql rfl ?_))))
   refine W_nil (W_condF rfl rfl (W_skip (W_blk (W_region ?_))))
   refine W_bin rfl rfl (b_add (m:=((i+1:Nat):Int)) (by rw [i64w (by omega)]; omega)) rfl ?_
   refine W_move rfl rfl (W_nil ?_)
   refine W_again ⟨i+1,Ws1,Q1,As1,c1,HP1,HB1⟩ ⟨by show i+1≤_; omega,hP1,hB1,hn1,hA1,by rw [shutsA_at hz,hsh,shutA_out hi],by show c1≤i+1; omega⟩ (by show ids.length-(i+1)<ids.length-i; omega) (sub_cons rfl (sub_cons rfl (sub_cons rfl (sub_cons rfl (sub_cons rfl (sub_nil _)))))) rfl zH
  ·skip
   refine W_call (.cons rfl (.cons rfl (.cons rfl .nil))) Tryz.call76 rfl ((open_gone (ca:=[.pointer (some ⟨b2,0,none⟩),.pointer (some ⟨b7,0,none⟩)]) (H:=(b2,.cells 55 1 [.pointer (some ⟨tb,0,none⟩)])::(b7,.cells 3 1 [.int .i64 (j:Int)])::(tb,.cells 170 1026 (tmRow pb bb As1))::(HP1++(HB1++H))) hj ho zM hs).hsub zH) ?_
   rintro v H' ⟨rfl,rfl⟩
   refine W_assign rfl rfl (W_nil (W_sr (W_move rfl rfl (W_bin rfl rfl b_eql rfl ?_))))
   refine W_nil (W_condF rfl rfl (W_skip (W_blk (W_region ?_))))
   refine W_bin rfl rfl (b_add (m:=((i+1:Nat):Int)) (by rw [i64w (by omega)]; omega)) rfl ?_
   refine W_move rfl rfl (W_nil ?_)
   refine W_again ⟨i+1,Ws1,Q1,As1,c1,HP1,HB1⟩ ⟨by show i+1≤_; omega,hP1,hB1,hn1,hA1,by rw [shutsA_at hz,hsh,shutA_at hj ho,if_pos hs],by show c1≤i+1; omega⟩ (by show ids.length-(i+1)<ids.length-i; omega) (sub_cons rfl (sub_cons rfl (sub_cons rfl (sub_cons rfl (sub_cons rfl (sub_nil _)))))) rfl zH
  ·skip
   refine W_call (.cons rfl (.cons rfl (.cons rfl .nil))) Tryz.call76 rfl ((open_in (ca:=[.pointer (some ⟨b2,0,none⟩),.pointer (some ⟨b7,0,none⟩)]) Tryz.call243 hj ho zM hs (shut1_L (z:=(j:Int)) (b2:=b2) (b7:=b7) hP1 hB1 hn1 ho (H:=H)) (by rintro v H2 ⟨_,_,_,_,e,_⟩; exact ⟨_,e⟩)).hsub zH) ?_
   rintro v H' ⟨HP2,HB2,hP2,hB2,rfl,rfl⟩
   refine W_assign rfl rfl (W_nil (W_sr (W_move rfl rfl (W_bin rfl rfl b_eql rfl ?_))))
   refine W_nil (W_condT rfl rfl (W_region (W_move rfl rfl ?_)))
   refine W_bin rfl rfl (b_add (m:=((c1+1:Nat):Int)) (by rw [i64w (by omega)]; omega)) rfl ?_
   refine W_assign rfl rfl (W_nil (W_blk (W_region ?_)))
   refine W_bin rfl rfl (b_add (m:=((i+1:Nat):Int)) (by rw [i64w (by omega)]; omega)) rfl ?_
   refine W_move rfl rfl (W_nil ?_)
   refine W_again ⟨i+1,Ws1.map (delW [(j:Int)]),delQ Q1 (j:Int),As1.set j { o with shut:=true },c1+1,HP2,HB2⟩ ⟨by show i+1≤_; omega,hP2,hB2,⟨by show (Ws1.map _).length=n; rw [List.length_map]; exact hn1.1,hn1.2⟩,hA1.set j (o:={ o with shut:=true }) (hA1.rng o (List.mem_of_getElem? ho)),by rw [shutsA_at hz,hsh,shutA_at hj ho,if_neg (by rw [hs]; decide)],by show c1+1≤i+1; omega⟩ (by show ids.length-(i+1)<ids.length-i; omega) (sub_cons rfl (sub_cons rfl (sub_cons rfl (sub_cons rfl (sub_cons rfl (sub_nil _)))))) rfl zH
 ·skip
  refine W_exit rfl ?_
  refine W_sr (W_move rfl rfl (W_assign rfl rfl (W_nil (W_ret1m (H2:=(tb,.cells 170 1026 (tmRow pb bb As1))::(HP1++(HB1++H))) Tryz.results150 rfl (.nil _) zH ?_))))
  obtain rfl:i=ids.length:=by omega
  rw [List.take_length] at hsh
  rw [hsh]
  exact ⟨HP1,HB1,hP1,hB1,hA1,hn1.1,rfl,rfl⟩
theorem shutsA_tok {T:Nat} {Ws:List Wl} {Q:List (Int × Int)} {As:List Tone} (ids:List Int) (h:TOk T Ws As):TOk T (shutsA Ws Q As ids).1 (shutsA Ws Q As ids).2.2.1:=by
 have key:∀ (ids:List Int) (s:List Wl × List (Int × Int) × List Tone × Nat),TOk T s.1 s.2.2.1→TOk T (ids.foldl shutA s).1 (ids.foldl shutA s).2.2.1:=fun ids=>by
  induction ids with
  | nil=>intro s hs; exact hs
  | cons z ids ih =>
   intro s hs
   refine ih _ ?_
   unfold shutA
   split
   ·split
    ·split
     ·exact hs
     ·rename_i o ho _
      refine ⟨hs.bank.del z,fun x hx=>?_⟩
      rcases List.mem_or_eq_of_mem_set hx with hx | rfl
      ·exact hs.starts x hx
      ·exact hs.starts o (List.mem_of_getElem? ho)
    ·exact hs
   ·exact hs
 exact key ids _ h
theorem Shut_L {w0:World} {H HB:Heap} {tb n T:Nat} {Ws:List Wl} {Q Rs:List (Int × Int)} {As:List Tone} (hT:TimerH tb n Ws Q Rs As HB) (hO:TOk T Ws As) {ids:List Int} {ad:Option Addr} {cap:Nat} (hil:ids.length≤1000000) (hrow:Holds w0 H ad (ids.map (Value.int .i64))) :
  LCalls Tryz.prog w0 150 #[.pointer (some ⟨tb,0,none⟩),.slice ad ids.length cap] (HB++H) (fun v H'=>∃ HB',TimerH tb n (shutsA Ws Q As ids).1 (shutsA Ws Q As ids).2.1 Rs (shutsA Ws Q As ids).2.2.1 HB'∧TOk T (shutsA Ws Q As ids).1 (shutsA Ws Q As ids).2.2.1∧v=.int .i64 ((shutsA Ws Q As ids).2.2.2:Nat)∧H'=HB'++H):=by
 cases hT with
 | @mk pb bb HP HBk hP hB hA hn =>
  show LCalls _ _ _ _ ((tb,.cells 170 1026 (tmRow pb bb As))::((HP++HBk)++H)) _
  rw [List.append_assoc]
  refine (Shut_at (H:=H) hP hB hn hA hil hrow).mono ?_
  rintro v H' ⟨HP2,HB2,hP2,hB2,hA2,hl2,rfl,rfl⟩
  exact ⟨_,.mk hP2 hB2 hA2 ⟨hl2,hn.2⟩,shutsA_tok ids hO,rfl,by show _=(tb,.cells 170 1026 (tmRow pb bb (shutsA Ws Q As ids).2.2.1))::((HP2++HB2)++H); rw [List.append_assoc]⟩
end Go.Proofs.YtincjohoncljoaaGreatDoor
