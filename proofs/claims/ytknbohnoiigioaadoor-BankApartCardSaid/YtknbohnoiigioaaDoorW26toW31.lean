/-
  Own work: contracts of functions that the statement reaches, and plain facts on what they compute; each theorem says its conditions.
-/
import Derived.Test.YtknbohnoiigioaaDoorW11toW25
import Derived.Test.YtknbohnoiigioaaDoorSlPtrtoSlRead
import Derived.Test.YtknbohnoiigioaaDoorSlRdtoSlFast
import Derived.Test.YtknbohnoiigioaaDoorShelf
set_option linter.all false
set_option linter.unusedSimpArgs false
set_option linter.unusedVariables false
namespace Go.Proofs.YtknbohnoiigioaaDoor
open Go Go.Sl
attribute [local irreducible] W
theorem OwnS.is {e : TypeId} {s : Nat} {v : Value} {n : Nat} {xs : List Value} {HB : Heap} (h : OwnS e s v n xs HB) (hn : 0 < n) : ∃ b cap, v = .slice (some ⟨b, 0, none⟩) n cap ∧ HB = [(b, .cells e (cap * s) xs)] ∧ n ≤ cap ∧ cap ≤ maxLen := by
  cases h with
  | nil => omega
  | own _ h2 h3 => exact ⟨_, _, rfl, rfl, h2, h3⟩
set_option maxHeartbeats 1000000 in
theorem del_miss {w0 : World} {H : Heap} {bw bm now turn c : Nat} {sl : List Value} {bs : List Nat} {l : Ents Int} {id : Int} (hok : RowOk sl bs) (hv : (mGet l id).getD zEnt = zEnt) (hh : mHas l id = false)  : LCalls Tryd.prog w0 66 #[.pointer (some ⟨bw, 0, none⟩), .int .i64 id] ((bw, .cells 102 523 (whRow now sl bs bm turn)) :: (bm, .obj (mapO (Value.int .i64) l c)) :: H) (fun v H' => v = .bool false ∧ H' = (bw, .cells 102 523 (whRow now sl bs bm turn)) :: (bm, .obj (mapO (Value.int .i64) l c)) :: H) := by
  refine L_enter (l := [.pointer (some ⟨bw, 0, none⟩), .int .i64 id]) Tryd.func66 rfl Tryd.ntmps66 rfl rfl ?_
  refine W_sr ?_
  refine W_box (l := [.int .i64 id]) rfl rfl rfl (fun b3 => ?_)
  refine W_assign rfl rfl ?_
  refine W_nil ?_
  refine W_seq ?_
  refine W_hsub (H' := (b3, .cells 3 1 [.int .i64 id]) :: (bw, .cells 102 523 (whRow now sl bs bm turn)) :: (bm, .obj (mapO (Value.int .i64) l c)) :: H) (.refl _) ?_
  refine W_anyC [(b3, .cells 3 1 [.int .i64 id]), (bw, .cells 102 523 (whRow now sl bs bm turn)), (bm, .obj (mapO (Value.int .i64) l c))] (by kernel_rfl) ?_
  refine WC_take 0 (l' := #[true, false, false, false, false, false, false, false, false, false, false, false]) rfl (by decide +kernel) (by decide +kernel) (by decide +kernel) rfl (by decide +kernel) (X_move rfl) rfl ?_
  refine WC_take 1 (l' := #[true, true, false, false, false, false, false, false, false, false, false, false]) rfl (by decide +kernel) (by decide +kernel) (by decide +kernel) rfl (by decide +kernel) (X_nilCheck rfl) rfl ?_
  refine WC_take 2 (l' := #[true, true, true, false, false, false, false, false, false, false, false, false]) rfl (by decide +kernel) (by decide +kernel) (by decide +kernel) rfl (by decide +kernel) (X_fieldAddr rfl fld102_3 (by decide)) rfl ?_
  refine WC_take 3 (l' := #[true, true, true, true, false, false, false, false, false, false, false, false]) rfl (by decide +kernel) (by decide +kernel) (by decide +kernel) rfl (by decide +kernel) (X_load (v := .map (some bm)) rfl ty97 rfl (Cell.own (b := bw) (by repeat (first | exact List.mem_cons_self | apply List.mem_cons_of_mem | apply List.mem_append_right)) (wh_map hok))) rfl ?_
  refine WC_take 4 (l' := #[true, true, true, true, true, false, false, false, false, false, false, false]) rfl (by decide +kernel) (by decide +kernel) (by decide +kernel) rfl (by decide +kernel) (X_load (v := .int .i64 id) rfl ty3 rfl (Cell.own (b := b3) (by repeat (first | exact List.mem_cons_self | apply List.mem_cons_of_mem | apply List.mem_append_right)) rfl)) rfl ?_
  refine WC_take 5 (l' := #[true, true, true, true, true, true, false, false, false, false, false, false]) rfl (by decide +kernel) (by decide +kernel) (by decide +kernel) rfl (by decide +kernel) (X_lookup (b := bm) (a := id) (zE := zEnt) rfl rfl keyI ty97 zEz (by repeat (first | exact List.mem_cons_self | apply List.mem_cons_of_mem | apply List.mem_append_right))) rfl ?_
  simp only [if_true]
  rw [hv, hh]
  refine WC_take 6 (l' := #[true, true, true, true, true, true, true, false, false, false, false, false]) rfl (by decide +kernel) (by decide +kernel) (by decide +kernel) rfl (by decide +kernel) (X_move rfl) rfl ?_
  refine WC_take 7 (l' := #[true, true, true, true, true, true, true, true, false, false, false, false]) rfl (by decide +kernel) (by decide +kernel) (by decide +kernel) rfl (by decide +kernel) (X_extract rfl rfl) rfl ?_
  refine WC_take 8 (l' := #[true, true, true, true, true, true, true, true, true, false, false, false]) rfl (by decide +kernel) (by decide +kernel) (by decide +kernel) rfl (by decide +kernel) (X_extract rfl rfl) rfl ?_
  refine WC_one 9 (l' := #[true, true, true, true, true, true, true, true, true, true, false, false]) (by repeat (first | with_reducible exact HSub.refl _ | refine HSub.cons (by repeat (first | exact Take.here _ | apply Take.next | apply Take.app)) ?_ | refine HSub.app (by repeat (first | with_reducible exact TakeS.here _ | apply TakeS.next | apply TakeS.app)) ?_ | exact HSub.nil _ | exact HSub.refl _ | refine HSub.drop ?_ | refine HSub.dropS ?_)) (by decide +kernel) rfl (by decide +kernel) ?_
  refine W_alloc (l := [.int .i64 0, .int .i64 0, .int .u64 0, .int .u64 0, .int .i64 0]) ty104 rfl rfl (fun b5 => ?_)
  refine W_nil ?_
  refine WC_goal ?_
  refine WC_one 10 (l' := #[true, true, true, true, true, true, true, true, true, true, true, false]) (by repeat (first | with_reducible exact HSub.refl _ | refine HSub.cons (by repeat (first | exact Take.here _ | apply Take.next | apply Take.app)) ?_ | refine HSub.app (by repeat (first | with_reducible exact TakeS.here _ | apply TakeS.next | apply TakeS.app)) ?_ | exact HSub.nil _ | exact HSub.refl _ | refine HSub.drop ?_ | refine HSub.dropS ?_)) (by decide +kernel) rfl (by decide +kernel) ?_
  refine W_storeA (l' := [.int .i64 0, .int .i64 0, .int .u64 0, .int .u64 0, .int .i64 0]) rfl rfl ty104 rfl rfl (b := b5) (by repeat (first | exact List.mem_cons_self | apply List.mem_cons_of_mem | apply List.mem_append_right)) (by exact Nat.le_refl 5) rfl (by repeat (first | exact Upd.head _ | apply Upd.tail | apply Upd.app)) ?_
  refine W_nil ?_
  refine WC_goal ?_
  refine WC_take 11 (l' := #[true, true, true, true, true, true, true, true, true, true, true, true]) rfl (by decide +kernel) (by decide +kernel) (by decide +kernel) rfl (by decide +kernel) (X_assign rfl) rfl ?_
  refine WC_done (by repeat (first | with_reducible exact HSub.refl _ | refine HSub.cons (by repeat (first | exact Take.here _ | apply Take.next | apply Take.app)) ?_ | refine HSub.app (by repeat (first | with_reducible exact TakeS.here _ | apply TakeS.next | apply TakeS.app)) ?_ | exact HSub.nil _ | exact HSub.refl _ | refine HSub.drop ?_ | refine HSub.dropS ?_)) (by decide +kernel) ?_
  refine W_seq ?_
  refine W_sr ?_
  refine W_move rfl rfl ?_
  refine W_not rfl rfl ?_
  refine W_nil ?_
  refine W_condT rfl rfl ?_
  refine W_sr ?_
  refine W_assign rfl rfl ?_
  refine W_nil ?_
  refine W_ret1m (H2 := (bw, .cells 102 523 (whRow now sl bs bm turn)) :: (bm, .obj (mapO (Value.int .i64) l c)) :: H) Tryd.results66 rfl (.nil _) (by repeat (first | with_reducible exact HSub.refl _ | refine HSub.cons (by repeat (first | exact Take.here _ | apply Take.next | apply Take.app)) ?_ | refine HSub.app (by repeat (first | with_reducible exact TakeS.here _ | apply TakeS.next | apply TakeS.app)) ?_ | exact HSub.nil _ | exact HSub.refl _ | refine HSub.drop ?_ | refine HSub.dropS ?_)) ?_
  exact ⟨rfl, rfl⟩
set_option maxHeartbeats 4000000 in
theorem del_at {w0 : World} {H : Heap} {bw bm now turn c tn z : Nat} {L : List Tm} {sl : List Value} {XS : List Heap} {bs : List Nat} {l : Ents Int} {id : Int} {e : Spot} {v0 : Value} {X : Heap} (hok : RowOk sl bs) (hmap : MapOk l c) (hv : (mGet l id).getD zEnt = .agg (e.v ++ [Value.int .i64 ((tn : Nat) : Int)]).toArray) (hh : mHas l id = true) (hsp : e.lv < 8 ∧ e.slot < 64) (hz : bs[e.lv]? = some z) (hz2 : z < 18446744073709551616) (hlen : (idsAt L (e.lv * 64 + e.slot)).length ≤ 256) (hpos : 0 < (idsAt L (e.lv * 64 + e.slot)).length) (hsl : sl[(e.lv * 64 + e.slot)]? = some v0) (hX : XS[(e.lv * 64 + e.slot)]? = some X) (hO : OwnS 3 1 v0 (idsAt L (e.lv * 64 + e.slot)).length ((idsAt L (e.lv * 64 + e.slot)).map (Value.int .i64)) X)  : LCalls Tryd.prog w0 66 #[.pointer (some ⟨bw, 0, none⟩), .int .i64 id] ((bw, .cells 102 523 (whRow now sl bs bm turn)) :: (bm, .obj (mapO (Value.int .i64) l c)) :: (XS.flatten ++ H)) (fun v H' => ∃ b cap, v = .bool true ∧ (del1 (idsAt L (e.lv * 64 + e.slot)) id).length ≤ cap ∧ cap ≤ maxLen ∧ H' = (bw, .cells 102 523 (whRow now (sl.set (e.lv * 64 + e.slot) (Value.slice (some ⟨b, 0, none⟩) (del1 (idsAt L (e.lv * 64 + e.slot)) id).length cap)) (if (del1 (idsAt L (e.lv * 64 + e.slot)) id).length = 0 then (bs.set e.lv (outL z [(e.slot : Int)])) else bs) bm turn)) :: (bm, .obj (mapO (Value.int .i64) (mDel l id) c)) :: ((b, .cells 3 (cap * 1) (((del1 (idsAt L (e.lv * 64 + e.slot)) id)).map (Value.int .i64))) :: ((XS.set (e.lv * 64 + e.slot) []).flatten ++ H))) := by
  obtain ⟨b, cap, hv0, hXe, hcap, hmax⟩ := OwnS.is hO hpos
  have hok2 : ∀ v, RowOk (sl.set (e.lv * 64 + e.slot) v) bs := fun v => hok.setSl _ v
  have hok3 : ∀ v, RowOk (sl.set (e.lv * 64 + e.slot) v) (bs.set e.lv (outL z [(e.slot : Int)])) := fun v => (hok.setSl _ v).setBs _ _
  have hdl := del1_le (idsAt L (e.lv * 64 + e.slot)) id
  refine L_enter (l := [.pointer (some ⟨bw, 0, none⟩), .int .i64 id]) Tryd.func66 rfl Tryd.ntmps66 rfl rfl ?_
  refine W_sr ?_
  refine W_box (l := [.int .i64 id]) rfl rfl rfl (fun b3 => ?_)
  refine W_assign rfl rfl ?_
  refine W_nil ?_
  refine W_seq ?_
  refine W_anyC [(b3, .cells 3 1 [.int .i64 id]), (bw, .cells 102 523 (whRow now sl bs bm turn)), (bm, .obj (mapO (Value.int .i64) l c))] (by kernel_rfl) ?_
  refine WC_take 0 (l' := #[true, false, false, false, false, false, false, false, false, false, false, false]) rfl (by decide +kernel) (by decide +kernel) (by decide +kernel) rfl (by decide +kernel) (X_move rfl) rfl ?_
  refine WC_take 1 (l' := #[true, true, false, false, false, false, false, false, false, false, false, false]) rfl (by decide +kernel) (by decide +kernel) (by decide +kernel) rfl (by decide +kernel) (X_nilCheck rfl) rfl ?_
  refine WC_take 2 (l' := #[true, true, true, false, false, false, false, false, false, false, false, false]) rfl (by decide +kernel) (by decide +kernel) (by decide +kernel) rfl (by decide +kernel) (X_fieldAddr rfl fld102_3 (by decide)) rfl ?_
  refine WC_take 3 (l' := #[true, true, true, true, false, false, false, false, false, false, false, false]) rfl (by decide +kernel) (by decide +kernel) (by decide +kernel) rfl (by decide +kernel) (X_load (v := .map (some bm)) rfl ty97 rfl (Cell.own (b := bw) (by repeat (first | exact List.mem_cons_self | apply List.mem_cons_of_mem | apply List.mem_append_right)) (wh_map hok))) rfl ?_
  refine WC_take 4 (l' := #[true, true, true, true, true, false, false, false, false, false, false, false]) rfl (by decide +kernel) (by decide +kernel) (by decide +kernel) rfl (by decide +kernel) (X_load (v := .int .i64 id) rfl ty3 rfl (Cell.own (b := b3) (by repeat (first | exact List.mem_cons_self | apply List.mem_cons_of_mem | apply List.mem_append_right)) rfl)) rfl ?_
  refine WC_take 5 (l' := #[true, true, true, true, true, true, false, false, false, false, false, false]) rfl (by decide +kernel) (by decide +kernel) (by decide +kernel) rfl (by decide +kernel) (X_lookup (b := bm) (a := id) (zE := zEnt) rfl rfl keyI ty97 zEz (by repeat (first | exact List.mem_cons_self | apply List.mem_cons_of_mem | apply List.mem_append_right))) rfl ?_
  simp only [if_true]
  rw [hv, hh]
  refine WC_take 6 (l' := #[true, true, true, true, true, true, true, false, false, false, false, false]) rfl (by decide +kernel) (by decide +kernel) (by decide +kernel) rfl (by decide +kernel) (X_move rfl) rfl ?_
  refine WC_take 7 (l' := #[true, true, true, true, true, true, true, true, false, false, false, false]) rfl (by decide +kernel) (by decide +kernel) (by decide +kernel) rfl (by decide +kernel) (X_extract rfl rfl) rfl ?_
  refine WC_take 8 (l' := #[true, true, true, true, true, true, true, true, true, false, false, false]) rfl (by decide +kernel) (by decide +kernel) (by decide +kernel) rfl (by decide +kernel) (X_extract rfl rfl) rfl ?_
  refine WC_one 9 (l' := #[true, true, true, true, true, true, true, true, true, true, false, false]) (by repeat (first | with_reducible exact HSub.refl _ | refine HSub.cons (by repeat (first | exact Take.here _ | apply Take.next | apply Take.app)) ?_ | refine HSub.app (by repeat (first | with_reducible exact TakeS.here _ | apply TakeS.next | apply TakeS.app)) ?_ | exact HSub.nil _ | exact HSub.refl _ | refine HSub.drop ?_ | refine HSub.dropS ?_)) (by decide +kernel) rfl (by decide +kernel) ?_
  refine W_alloc (l := [.int .i64 0, .int .i64 0, .int .u64 0, .int .u64 0, .int .i64 0]) ty104 rfl rfl (fun b5 => ?_)
  refine W_nil ?_
  refine WC_goal ?_
  refine WC_one 10 (l' := #[true, true, true, true, true, true, true, true, true, true, true, false]) (by repeat (first | with_reducible exact HSub.refl _ | refine HSub.cons (by repeat (first | exact Take.here _ | apply Take.next | apply Take.app)) ?_ | refine HSub.app (by repeat (first | with_reducible exact TakeS.here _ | apply TakeS.next | apply TakeS.app)) ?_ | exact HSub.nil _ | exact HSub.refl _ | refine HSub.drop ?_ | refine HSub.dropS ?_)) (by decide +kernel) rfl (by decide +kernel) ?_
  refine W_storeA (l' := (e.v ++ [Value.int .i64 ((tn : Nat) : Int)])) rfl rfl ty104 rfl rfl (b := b5) (by repeat (first | exact List.mem_cons_self | apply List.mem_cons_of_mem | apply List.mem_append_right)) (by exact Nat.le_refl 5) rfl (by repeat (first | exact Upd.head _ | apply Upd.tail | apply Upd.app)) ?_
  refine W_nil ?_
  refine WC_goal ?_
  refine WC_take 11 (l' := #[true, true, true, true, true, true, true, true, true, true, true, true]) rfl (by decide +kernel) (by decide +kernel) (by decide +kernel) rfl (by decide +kernel) (X_assign rfl) rfl ?_
  refine WC_done (by repeat (first | with_reducible exact HSub.refl _ | refine HSub.cons (by repeat (first | exact Take.here _ | apply Take.next | apply Take.app)) ?_ | refine HSub.app (by repeat (first | with_reducible exact TakeS.here _ | apply TakeS.next | apply TakeS.app)) ?_ | exact HSub.nil _ | exact HSub.refl _ | refine HSub.drop ?_ | refine HSub.dropS ?_)) (by decide +kernel) ?_
  refine W_seq ?_
  refine W_sr ?_
  refine W_move rfl rfl ?_
  refine W_not rfl rfl ?_
  refine W_nil ?_
  refine W_condF rfl rfl ?_
  refine W_skip ?_
  refine W_sr ?_
  refine W_fieldAddr rfl fld104_0 (by decide) rfl ?_
  refine W_loadB (vs := e.v) rfl ty27 rfl (b := b5) (by repeat (first | exact List.mem_cons_self | apply List.mem_cons_of_mem | apply List.mem_append_right)) rfl rfl rfl ?_
  refine W_alloc (l := zSpot.v) ty27 rfl rfl (fun b7 => ?_)
  refine W_storeA (l' := e.v) rfl rfl ty27 rfl rfl (b := b7) (by repeat (first | exact List.mem_cons_self | apply List.mem_cons_of_mem | apply List.mem_append_right)) (by exact Nat.le_refl 4) rfl (by repeat (first | exact Upd.head _ | apply Upd.tail | apply Upd.app)) ?_
  refine W_nil ?_
  refine W_seq ?_
  refine W_hsub (.cons (.here _) (.cons (.here _) (.cons (.here _) (.cons (.here _) (.cons (.here _) (flat_out hX)))))) ?_
  subst hv0 hXe
  refine W_hsub (H' := (b, .cells 3 (cap * 1) (((idsAt L (e.lv * 64 + e.slot))).map (Value.int .i64))) :: (b7, .cells 27 4 e.v) :: (b5, .cells 104 5 (e.v ++ [Value.int .i64 ((tn : Nat) : Int)])) :: (b3, .cells 3 1 [.int .i64 id]) :: (bw, .cells 102 523 (whRow now sl bs bm turn)) :: (bm, .obj (mapO (Value.int .i64) l c)) :: ((XS.set (e.lv * 64 + e.slot) []).flatten ++ H)) (by repeat (first | with_reducible exact HSub.refl _ | refine HSub.cons (by repeat (first | exact Take.here _ | apply Take.next | apply Take.app)) ?_ | refine HSub.app (by repeat (first | with_reducible exact TakeS.here _ | apply TakeS.next | apply TakeS.app)) ?_ | exact HSub.nil _ | exact HSub.refl _ | refine HSub.drop ?_ | refine HSub.dropS ?_)) ?_
  refine W_anyC [(b3, .cells 3 1 [.int .i64 id]), (b7, .cells 27 4 e.v), (bw, .cells 102 523 (whRow now sl bs bm turn))] (by kernel_rfl) ?_
  refine WC_take 0 (l' := #[true, false, false, false, false, false, false, false, false, false, false, false, false]) rfl (by decide +kernel) (by decide +kernel) (by decide +kernel) rfl (by decide +kernel) (X_move rfl) rfl ?_
  refine WC_take 1 (l' := #[true, true, false, false, false, false, false, false, false, false, false, false, false]) rfl (by decide +kernel) (by decide +kernel) (by decide +kernel) rfl (by decide +kernel) (X_fieldAddr rfl fld27_0 (by decide)) rfl ?_
  refine WC_take 2 (l' := #[true, true, true, false, false, false, false, false, false, false, false, false, false]) rfl (by decide +kernel) (by decide +kernel) (by decide +kernel) rfl (by decide +kernel) (X_load (v := .int .i64 (e.lv : Int)) rfl ty3 rfl (Cell.own (b := b7) (by repeat (first | exact List.mem_cons_self | apply List.mem_cons_of_mem | apply List.mem_append_right)) rfl)) rfl ?_
  refine WC_take 3 (l' := #[true, true, true, true, false, false, false, false, false, false, false, false, false]) rfl (by decide +kernel) (by decide +kernel) (by decide +kernel) rfl (by decide +kernel) (X_fieldAddr rfl fld27_1 (by decide)) rfl ?_
  refine WC_take 4 (l' := #[true, true, true, true, true, false, false, false, false, false, false, false, false]) rfl (by decide +kernel) (by decide +kernel) (by decide +kernel) rfl (by decide +kernel) (X_load (v := .int .i64 (e.slot : Int)) rfl ty3 rfl (Cell.own (b := b7) (by repeat (first | exact List.mem_cons_self | apply List.mem_cons_of_mem | apply List.mem_append_right)) rfl)) rfl ?_
  refine WC_take 5 (l' := #[true, true, true, true, true, true, false, false, false, false, false, false, false]) rfl (by decide +kernel) (by decide +kernel) (by decide +kernel) rfl (by decide +kernel) (X_nilCheck rfl) rfl ?_
  refine WC_take 6 (l' := #[true, true, true, true, true, true, true, false, false, false, false, false, false]) rfl (by decide +kernel) (by decide +kernel) (by decide +kernel) rfl (by decide +kernel) (X_fieldAddr rfl fld102_1 (by decide)) rfl ?_
  refine WC_take 7 (l' := #[true, true, true, true, true, true, true, true, false, false, false, false, false]) rfl (by decide +kernel) (by decide +kernel) (by decide +kernel) rfl (by decide +kernel) (X_indexAddrA (j := e.lv) rfl rfl ty99 ty98 rfl hsp.1 (at_ := 1 + e.lv * 64) (by omega)) rfl ?_
  refine WC_take 8 (l' := #[true, true, true, true, true, true, true, true, true, false, false, false, false]) rfl (by decide +kernel) (by decide +kernel) (by decide +kernel) rfl (by decide +kernel) (X_indexAddrA (j := e.slot) rfl rfl ty98 ty35 rfl hsp.2 (at_ := 1 + (e.lv * 64 + e.slot)) (by omega)) rfl ?_
  refine WC_take 9 (l' := #[true, true, true, true, true, true, true, true, true, true, false, false, false]) rfl (by decide +kernel) (by decide +kernel) (by decide +kernel) rfl (by decide +kernel) (X_load (v := .slice (some ⟨b, 0, none⟩) (idsAt L (e.lv * 64 + e.slot)).length cap) rfl ty35 rfl (Cell.own (b := bw) (by repeat (first | exact List.mem_cons_self | apply List.mem_cons_of_mem | apply List.mem_append_right)) (wh_sl hok hsl))) rfl ?_
  refine WC_take 10 (l' := #[true, true, true, true, true, true, true, true, true, true, true, false, false]) rfl (by decide +kernel) (by decide +kernel) (by decide +kernel) rfl (by decide +kernel) (X_makeFunc .nil (.cons rfl .nil)) rfl ?_
  refine WC_one 11 (l' := #[true, true, true, true, true, true, true, true, true, true, true, true, false]) (by repeat (first | with_reducible exact HSub.refl _ | refine HSub.cons (by repeat (first | exact Take.here _ | apply Take.next | apply Take.app)) ?_ | refine HSub.app (by repeat (first | with_reducible exact TakeS.here _ | apply TakeS.next | apply TakeS.app)) ?_ | exact HSub.nil _ | exact HSub.refl _ | refine HSub.drop ?_ | refine HSub.dropS ?_)) (by decide +kernel) rfl (by decide +kernel) ?_
  refine W_call (.cons rfl (.cons rfl .nil)) Tryd.call86 rfl ((delete_L (l := (idsAt L (e.lv * 64 + e.slot))) (id := id) (bd := b3) (b := b) (tot := cap * 1) (cap := cap) (H := (b7, .cells 27 4 e.v) :: (b5, .cells 104 5 (e.v ++ [Value.int .i64 ((tn : Nat) : Int)])) :: (b3, .cells 3 1 [.int .i64 id]) :: (bw, .cells 102 523 (whRow now sl bs bm turn)) :: (bm, .obj (mapO (Value.int .i64) l c)) :: ((XS.set (e.lv * 64 + e.slot) []).flatten ++ H)) (by omega) hcap (by repeat (first | exact List.mem_cons_self | apply List.mem_cons_of_mem | apply List.mem_append_right))).hsub (by repeat (first | with_reducible exact HSub.refl _ | refine HSub.cons (by repeat (first | exact Take.here _ | apply Take.next | apply Take.app)) ?_ | refine HSub.app (by repeat (first | with_reducible exact TakeS.here _ | apply TakeS.next | apply TakeS.app)) ?_ | exact HSub.nil _ | exact HSub.refl _ | refine HSub.drop ?_ | refine HSub.dropS ?_))) ?_
  rintro v H' ⟨rfl, rfl⟩
  refine W_nil ?_
  refine WC_goal ?_
  refine WC_take 12 (l' := #[true, true, true, true, true, true, true, true, true, true, true, true, true]) rfl (by decide +kernel) (by decide +kernel) (by decide +kernel) rfl (by decide +kernel) (X_assign rfl) rfl ?_
  refine WC_done (by repeat (first | with_reducible exact HSub.refl _ | refine HSub.cons (by repeat (first | exact Take.here _ | apply Take.next | apply Take.app)) ?_ | refine HSub.app (by repeat (first | with_reducible exact TakeS.here _ | apply TakeS.next | apply TakeS.app)) ?_ | exact HSub.nil _ | exact HSub.refl _ | refine HSub.drop ?_ | refine HSub.dropS ?_)) (by decide +kernel) ?_
  refine W_seq ?_
  refine W_anyS [(b7, .cells 27 4 e.v), (bw, .cells 102 523 (whRow now sl bs bm turn))] 10 (by kernel_rfl) ?_
  refine WS_take 0 (l' := #[true, false, false, false, false, false, false, false, false, false, false]) rfl rfl (by decide +kernel) (by decide +kernel) (by decide +kernel) (by decide +kernel) rfl (by decide +kernel) (X_move rfl) rfl ?_
  refine WS_take 1 (l' := #[true, true, false, false, false, false, false, false, false, false, false]) rfl rfl (by decide +kernel) (by decide +kernel) (by decide +kernel) (by decide +kernel) rfl (by decide +kernel) (X_fieldAddr rfl fld27_0 (by decide)) rfl ?_
  refine WS_take 2 (l' := #[true, true, true, false, false, false, false, false, false, false, false]) rfl rfl (by decide +kernel) (by decide +kernel) (by decide +kernel) (by decide +kernel) rfl (by decide +kernel) (X_load (v := .int .i64 (e.lv : Int)) rfl ty3 rfl (Cell.own (b := b7) (by repeat (first | exact List.mem_cons_self | apply List.mem_cons_of_mem | apply List.mem_append_right)) rfl)) rfl ?_
  refine WS_take 3 (l' := #[true, true, true, true, false, false, false, false, false, false, false]) rfl rfl (by decide +kernel) (by decide +kernel) (by decide +kernel) (by decide +kernel) rfl (by decide +kernel) (X_fieldAddr rfl fld27_1 (by decide)) rfl ?_
  refine WS_take 4 (l' := #[true, true, true, true, true, false, false, false, false, false, false]) rfl rfl (by decide +kernel) (by decide +kernel) (by decide +kernel) (by decide +kernel) rfl (by decide +kernel) (X_load (v := .int .i64 (e.slot : Int)) rfl ty3 rfl (Cell.own (b := b7) (by repeat (first | exact List.mem_cons_self | apply List.mem_cons_of_mem | apply List.mem_append_right)) rfl)) rfl ?_
  refine WS_take 5 (l' := #[true, true, true, true, true, true, false, false, false, false, false]) rfl rfl (by decide +kernel) (by decide +kernel) (by decide +kernel) (by decide +kernel) rfl (by decide +kernel) (X_move rfl) rfl ?_
  refine WS_takeP 6 (l' := #[true, true, true, true, true, true, true, false, false, false, false]) rfl rfl (by decide +kernel) (by decide +kernel) (by decide +kernel) rfl (by decide +kernel) (X_nilCheck rfl) rfl ?_
  refine WS_takeP 7 (l' := #[true, true, true, true, true, true, true, true, false, false, false]) rfl rfl (by decide +kernel) (by decide +kernel) (by decide +kernel) rfl (by decide +kernel) (X_fieldAddr rfl fld102_1 (by decide)) rfl ?_
  refine WS_takeP 8 (l' := #[true, true, true, true, true, true, true, true, true, false, false]) rfl rfl (by decide +kernel) (by decide +kernel) (by decide +kernel) rfl (by decide +kernel) (X_indexAddrA (j := e.lv) rfl rfl ty99 ty98 rfl hsp.1 (at_ := 1 + e.lv * 64) (by omega)) rfl ?_
  refine WS_take 9 (l' := #[true, true, true, true, true, true, true, true, true, true, false]) rfl rfl (by decide +kernel) (by decide +kernel) (by decide +kernel) (by decide +kernel) rfl (by decide +kernel) (X_indexAddrA (j := e.slot) rfl rfl ty98 ty35 rfl hsp.2 (at_ := 1 + (e.lv * 64 + e.slot)) (by omega)) rfl ?_
  refine WS_last (l' := #[true, true, true, true, true, true, true, true, true, true, true]) (by repeat (first | with_reducible exact HSub.refl _ | refine HSub.cons (by repeat (first | exact Take.here _ | apply Take.next | apply Take.app)) ?_ | refine HSub.app (by repeat (first | with_reducible exact TakeS.here _ | apply TakeS.next | apply TakeS.app)) ?_ | exact HSub.nil _ | exact HSub.refl _ | refine HSub.drop ?_ | refine HSub.dropS ?_)) (by decide +kernel) rfl (by decide +kernel) ?_
  refine W_store (l' := whRow now (sl.set (e.lv * 64 + e.slot) (Value.slice (some ⟨b, 0, none⟩) (del1 (idsAt L (e.lv * 64 + e.slot)) id).length cap)) bs bm turn) rfl rfl ty35 rfl rfl (b := bw) (by repeat (first | exact List.mem_cons_self | apply List.mem_cons_of_mem | apply List.mem_append_right)) (by rw [wh_len hok, Nat.blt_eq]; omega) (wh_setSl hok (by omega)) (by repeat (first | exact Upd.head _ | apply Upd.tail | apply Upd.app)) ?_
  refine W_nil ?_
  refine WC_goal ?_
  refine WC_done (.nil _) (by decide +kernel) ?_
  refine W_seq ?_
  refine W_sr ?_
  refine W_move rfl rfl ?_
  refine W_len rfl ty35 rfl rfl ?_
  refine W_bin rfl rfl b_eql rfl ?_
  refine W_nil ?_
  refine W_condPS (p := (del1 (idsAt L (e.lv * 64 + e.slot)) id).length = 0) rfl (by rw [decide_eq_true_eq]; omega) (fun q0 => ?_) (fun q0 => ?_)
  · skip
    refine W_anyS [(b7, .cells 27 4 e.v), (bw, .cells 102 523 (whRow now (sl.set (e.lv * 64 + e.slot) (Value.slice (some ⟨b, 0, none⟩) (del1 (idsAt L (e.lv * 64 + e.slot)) id).length cap)) bs bm turn))] 17 (by kernel_rfl) ?_
    refine WS_take 0 (l' := #[true, false, false, false, false, false, false, false, false, false, false, false, false, false, false, false, false, false]) rfl rfl (by decide +kernel) (by decide +kernel) (by decide +kernel) (by decide +kernel) rfl (by decide +kernel) (X_move rfl) rfl ?_
    refine WS_take 1 (l' := #[true, true, false, false, false, false, false, false, false, false, false, false, false, false, false, false, false, false]) rfl rfl (by decide +kernel) (by decide +kernel) (by decide +kernel) (by decide +kernel) rfl (by decide +kernel) (X_fieldAddr rfl fld27_0 (by decide)) rfl ?_
    refine WS_take 2 (l' := #[true, true, true, false, false, false, false, false, false, false, false, false, false, false, false, false, false, false]) rfl rfl (by decide +kernel) (by decide +kernel) (by decide +kernel) (by decide +kernel) rfl (by decide +kernel) (X_load (v := .int .i64 (e.lv : Int)) rfl ty3 rfl (Cell.own (b := b7) (by repeat (first | exact List.mem_cons_self | apply List.mem_cons_of_mem | apply List.mem_append_right)) rfl)) rfl ?_
    refine WS_take 3 (l' := #[true, true, true, true, false, false, false, false, false, false, false, false, false, false, false, false, false, false]) rfl rfl (by decide +kernel) (by decide +kernel) (by decide +kernel) (by decide +kernel) rfl (by decide +kernel) (X_move rfl) rfl ?_
    refine WS_take 4 (l' := #[true, true, true, true, true, false, false, false, false, false, false, false, false, false, false, false, false, false]) rfl rfl (by decide +kernel) (by decide +kernel) (by decide +kernel) (by decide +kernel) rfl (by decide +kernel) (X_fieldAddr rfl fld27_0 (by decide)) rfl ?_
    refine WS_take 5 (l' := #[true, true, true, true, true, true, false, false, false, false, false, false, false, false, false, false, false, false]) rfl rfl (by decide +kernel) (by decide +kernel) (by decide +kernel) (by decide +kernel) rfl (by decide +kernel) (X_load (v := .int .i64 (e.lv : Int)) rfl ty3 rfl (Cell.own (b := b7) (by repeat (first | exact List.mem_cons_self | apply List.mem_cons_of_mem | apply List.mem_append_right)) rfl)) rfl ?_
    refine WS_take 6 (l' := #[true, true, true, true, true, true, true, false, false, false, false, false, false, false, false, false, false, false]) rfl rfl (by decide +kernel) (by decide +kernel) (by decide +kernel) (by decide +kernel) rfl (by decide +kernel) (X_nilCheck rfl) rfl ?_
    refine WS_take 7 (l' := #[true, true, true, true, true, true, true, true, false, false, false, false, false, false, false, false, false, false]) rfl rfl (by decide +kernel) (by decide +kernel) (by decide +kernel) (by decide +kernel) rfl (by decide +kernel) (X_fieldAddr rfl fld102_2 (by decide)) rfl ?_
    refine WS_take 8 (l' := #[true, true, true, true, true, true, true, true, true, false, false, false, false, false, false, false, false, false]) rfl rfl (by decide +kernel) (by decide +kernel) (by decide +kernel) (by decide +kernel) rfl (by decide +kernel) (X_indexAddrA (j := e.lv) rfl rfl ty100 ty49 rfl hsp.1 (at_ := 513 + e.lv) (by omega)) rfl ?_
    refine WS_take 9 (l' := #[true, true, true, true, true, true, true, true, true, true, false, false, false, false, false, false, false, false]) rfl rfl (by decide +kernel) (by decide +kernel) (by decide +kernel) (by decide +kernel) rfl (by decide +kernel) (X_load (v := .int .u64 (z : Int)) rfl ty49 rfl (Cell.own (b := bw) (by repeat (first | exact List.mem_cons_self | apply List.mem_cons_of_mem | apply List.mem_append_right)) (wh_bs (hok2 _) hz))) rfl ?_
    refine WS_take 10 (l' := #[true, true, true, true, true, true, true, true, true, true, true, false, false, false, false, false, false, false]) rfl rfl (by decide +kernel) (by decide +kernel) (by decide +kernel) (by decide +kernel) rfl (by decide +kernel) (X_fieldAddr rfl fld27_1 (by decide)) rfl ?_
    refine WS_take 11 (l' := #[true, true, true, true, true, true, true, true, true, true, true, true, false, false, false, false, false, false]) rfl rfl (by decide +kernel) (by decide +kernel) (by decide +kernel) (by decide +kernel) rfl (by decide +kernel) (X_load (v := .int .i64 (e.slot : Int)) rfl ty3 rfl (Cell.own (b := b7) (by repeat (first | exact List.mem_cons_self | apply List.mem_cons_of_mem | apply List.mem_append_right)) rfl)) rfl ?_
    refine WS_takeP 14 (l' := #[true, true, true, true, true, true, true, true, true, true, true, true, false, false, true, false, false, false]) rfl rfl (by decide +kernel) (by decide +kernel) (by decide +kernel) rfl (by decide +kernel) (X_nilCheck rfl) rfl ?_
    refine WS_takeP 15 (l' := #[true, true, true, true, true, true, true, true, true, true, true, true, false, false, true, true, false, false]) rfl rfl (by decide +kernel) (by decide +kernel) (by decide +kernel) rfl (by decide +kernel) (X_fieldAddr rfl fld102_2 (by decide)) rfl ?_
    refine WS_one 12 (l' := #[true, true, true, true, true, true, true, true, true, true, true, true, true, false, true, true, false, false]) (by repeat (first | with_reducible exact HSub.refl _ | refine HSub.cons (by repeat (first | exact Take.here _ | apply Take.next | apply Take.app)) ?_ | refine HSub.app (by repeat (first | with_reducible exact TakeS.here _ | apply TakeS.next | apply TakeS.app)) ?_ | exact HSub.nil _ | exact HSub.refl _ | refine HSub.drop ?_ | refine HSub.dropS ?_)) rfl (by decide +kernel) rfl (by decide +kernel) ?_
    refine W_buildSlice ty35 ty3 (.cons rfl rfl rfl rfl rfl .nil) rfl rfl rfl rfl rfl rfl rfl (fun b59 => ?_)
    refine W_nil ?_
    refine WS_goal ?_
    refine WS_one 13 (l' := #[true, true, true, true, true, true, true, true, true, true, true, true, true, true, true, true, false, false]) (by repeat (first | with_reducible exact HSub.refl _ | refine HSub.cons (by repeat (first | exact Take.here _ | apply Take.next | apply Take.app)) ?_ | refine HSub.app (by repeat (first | with_reducible exact TakeS.here _ | apply TakeS.next | apply TakeS.app)) ?_ | exact HSub.nil _ | exact HSub.refl _ | refine HSub.drop ?_ | refine HSub.dropS ?_)) rfl (by decide +kernel) rfl (by decide +kernel) ?_
    refine W_callq (.cons rfl (.cons rfl .nil)) Tryd.call26 rfl (out_q (l := [(e.slot : Int)]) hz2 (show 1 ≤ 4611686018427387904 by decide) (Holds.own (b := b59) (by repeat (first | exact List.mem_cons_self | apply List.mem_cons_of_mem | apply List.mem_append_right)))) ?_
    refine W_nil ?_
    refine WS_goal ?_
    refine WS_take 16 (l' := #[true, true, true, true, true, true, true, true, true, true, true, true, true, true, true, true, true, false]) rfl rfl (by decide +kernel) (by decide +kernel) (by decide +kernel) (by decide +kernel) rfl (by decide +kernel) (X_indexAddrA (j := e.lv) rfl rfl ty100 ty49 rfl hsp.1 (at_ := 513 + e.lv) (by omega)) rfl ?_
    refine WS_last (l' := #[true, true, true, true, true, true, true, true, true, true, true, true, true, true, true, true, true, true]) (by repeat (first | with_reducible exact HSub.refl _ | refine HSub.cons (by repeat (first | exact Take.here _ | apply Take.next | apply Take.app)) ?_ | refine HSub.app (by repeat (first | with_reducible exact TakeS.here _ | apply TakeS.next | apply TakeS.app)) ?_ | exact HSub.nil _ | exact HSub.refl _ | refine HSub.drop ?_ | refine HSub.dropS ?_)) (by decide +kernel) rfl (by decide +kernel) ?_
    refine W_store (l' := whRow now (sl.set (e.lv * 64 + e.slot) (Value.slice (some ⟨b, 0, none⟩) (del1 (idsAt L (e.lv * 64 + e.slot)) id).length cap)) (bs.set e.lv (outL z [(e.slot : Int)])) bm turn) rfl rfl ty49 rfl rfl (b := bw) (by repeat (first | exact List.mem_cons_self | apply List.mem_cons_of_mem | apply List.mem_append_right)) (by rw [wh_len (hok2 _), Nat.blt_eq]; omega) (wh_setBs (hok2 _) hsp.1) (by repeat (first | exact Upd.head _ | apply Upd.tail | apply Upd.app)) ?_
    refine W_nil ?_
    refine WC_goal ?_
    refine WC_done (.nil _) (by decide +kernel) ?_
    refine W_seq ?_
    refine W_anyC [(b3, .cells 3 1 [.int .i64 id]), (bw, .cells 102 523 (whRow now (sl.set (e.lv * 64 + e.slot) (Value.slice (some ⟨b, 0, none⟩) (del1 (idsAt L (e.lv * 64 + e.slot)) id).length cap)) (bs.set e.lv (outL z [(e.slot : Int)])) bm turn))] (by kernel_rfl) ?_
    refine WC_take 0 (l' := #[true, false, false, false, false, false]) rfl (by decide +kernel) (by decide +kernel) (by decide +kernel) rfl (by decide +kernel) (X_move rfl) rfl ?_
    refine WC_take 1 (l' := #[true, true, false, false, false, false]) rfl (by decide +kernel) (by decide +kernel) (by decide +kernel) rfl (by decide +kernel) (X_nilCheck rfl) rfl ?_
    refine WC_take 2 (l' := #[true, true, true, false, false, false]) rfl (by decide +kernel) (by decide +kernel) (by decide +kernel) rfl (by decide +kernel) (X_fieldAddr rfl fld102_3 (by decide)) rfl ?_
    refine WC_take 3 (l' := #[true, true, true, true, false, false]) rfl (by decide +kernel) (by decide +kernel) (by decide +kernel) rfl (by decide +kernel) (X_load (v := .map (some bm)) rfl ty97 rfl (Cell.own (b := bw) (by repeat (first | exact List.mem_cons_self | apply List.mem_cons_of_mem | apply List.mem_append_right)) (wh_map (hok3 _)))) rfl ?_
    refine WC_take 4 (l' := #[true, true, true, true, true, false]) rfl (by decide +kernel) (by decide +kernel) (by decide +kernel) rfl (by decide +kernel) (X_load (v := .int .i64 id) rfl ty3 rfl (Cell.own (b := b3) (by repeat (first | exact List.mem_cons_self | apply List.mem_cons_of_mem | apply List.mem_append_right)) rfl)) rfl ?_
    refine WC_one 5 (l' := #[true, true, true, true, true, true]) (by repeat (first | with_reducible exact HSub.refl _ | refine HSub.cons (by repeat (first | exact Take.here _ | apply Take.next | apply Take.app)) ?_ | refine HSub.app (by repeat (first | with_reducible exact TakeS.here _ | apply TakeS.next | apply TakeS.app)) ?_ | exact HSub.nil _ | exact HSub.refl _ | refine HSub.drop ?_ | refine HSub.dropS ?_)) (by decide +kernel) rfl (by decide +kernel) ?_
    refine W_delete (a := id) (b := bm) rfl rfl keyI ty97 hmap (by repeat (first | exact Upd.head _ | apply Upd.tail | apply Upd.app)) rfl ?_
    refine W_nil ?_
    refine WC_goal ?_
    refine WC_done (by repeat (first | with_reducible exact HSub.refl _ | refine HSub.cons (by repeat (first | exact Take.here _ | apply Take.next | apply Take.app)) ?_ | refine HSub.app (by repeat (first | with_reducible exact TakeS.here _ | apply TakeS.next | apply TakeS.app)) ?_ | exact HSub.nil _ | exact HSub.refl _ | refine HSub.drop ?_ | refine HSub.dropS ?_)) (by decide +kernel) ?_
    refine W_sr ?_
    refine W_assign rfl rfl ?_
    refine W_nil ?_
    refine W_ret1m (H2 := (bw, .cells 102 523 (whRow now (sl.set (e.lv * 64 + e.slot) (Value.slice (some ⟨b, 0, none⟩) (del1 (idsAt L (e.lv * 64 + e.slot)) id).length cap)) (bs.set e.lv (outL z [(e.slot : Int)])) bm turn)) :: (bm, .obj (mapO (Value.int .i64) (mDel l id) c)) :: ((b, .cells 3 (cap * 1) (((del1 (idsAt L (e.lv * 64 + e.slot)) id)).map (Value.int .i64))) :: ((XS.set (e.lv * 64 + e.slot) []).flatten ++ H))) Tryd.results66 rfl (.nil _) (by repeat (first | with_reducible exact HSub.refl _ | refine HSub.cons (by repeat (first | exact Take.here _ | apply Take.next | apply Take.app)) ?_ | refine HSub.app (by repeat (first | with_reducible exact TakeS.here _ | apply TakeS.next | apply TakeS.app)) ?_ | exact HSub.nil _ | exact HSub.refl _ | refine HSub.drop ?_ | refine HSub.dropS ?_)) ?_
    exact ⟨b, cap, rfl, by omega, hmax, by rw [if_pos q0]⟩
  · skip
    refine W_skip ?_
    refine W_seq ?_
    refine W_anyC [(b3, .cells 3 1 [.int .i64 id]), (bw, .cells 102 523 (whRow now (sl.set (e.lv * 64 + e.slot) (Value.slice (some ⟨b, 0, none⟩) (del1 (idsAt L (e.lv * 64 + e.slot)) id).length cap)) bs bm turn))] (by kernel_rfl) ?_
    refine WC_take 0 (l' := #[true, false, false, false, false, false]) rfl (by decide +kernel) (by decide +kernel) (by decide +kernel) rfl (by decide +kernel) (X_move rfl) rfl ?_
    refine WC_take 1 (l' := #[true, true, false, false, false, false]) rfl (by decide +kernel) (by decide +kernel) (by decide +kernel) rfl (by decide +kernel) (X_nilCheck rfl) rfl ?_
    refine WC_take 2 (l' := #[true, true, true, false, false, false]) rfl (by decide +kernel) (by decide +kernel) (by decide +kernel) rfl (by decide +kernel) (X_fieldAddr rfl fld102_3 (by decide)) rfl ?_
    refine WC_take 3 (l' := #[true, true, true, true, false, false]) rfl (by decide +kernel) (by decide +kernel) (by decide +kernel) rfl (by decide +kernel) (X_load (v := .map (some bm)) rfl ty97 rfl (Cell.own (b := bw) (by repeat (first | exact List.mem_cons_self | apply List.mem_cons_of_mem | apply List.mem_append_right)) (wh_map (hok2 _)))) rfl ?_
    refine WC_take 4 (l' := #[true, true, true, true, true, false]) rfl (by decide +kernel) (by decide +kernel) (by decide +kernel) rfl (by decide +kernel) (X_load (v := .int .i64 id) rfl ty3 rfl (Cell.own (b := b3) (by repeat (first | exact List.mem_cons_self | apply List.mem_cons_of_mem | apply List.mem_append_right)) rfl)) rfl ?_
    refine WC_one 5 (l' := #[true, true, true, true, true, true]) (by repeat (first | with_reducible exact HSub.refl _ | refine HSub.cons (by repeat (first | exact Take.here _ | apply Take.next | apply Take.app)) ?_ | refine HSub.app (by repeat (first | with_reducible exact TakeS.here _ | apply TakeS.next | apply TakeS.app)) ?_ | exact HSub.nil _ | exact HSub.refl _ | refine HSub.drop ?_ | refine HSub.dropS ?_)) (by decide +kernel) rfl (by decide +kernel) ?_
    refine W_delete (a := id) (b := bm) rfl rfl keyI ty97 hmap (by repeat (first | exact Upd.head _ | apply Upd.tail | apply Upd.app)) rfl ?_
    refine W_nil ?_
    refine WC_goal ?_
    refine WC_done (by repeat (first | with_reducible exact HSub.refl _ | refine HSub.cons (by repeat (first | exact Take.here _ | apply Take.next | apply Take.app)) ?_ | refine HSub.app (by repeat (first | with_reducible exact TakeS.here _ | apply TakeS.next | apply TakeS.app)) ?_ | exact HSub.nil _ | exact HSub.refl _ | refine HSub.drop ?_ | refine HSub.dropS ?_)) (by decide +kernel) ?_
    refine W_sr ?_
    refine W_assign rfl rfl ?_
    refine W_nil ?_
    refine W_ret1m (H2 := (bw, .cells 102 523 (whRow now (sl.set (e.lv * 64 + e.slot) (Value.slice (some ⟨b, 0, none⟩) (del1 (idsAt L (e.lv * 64 + e.slot)) id).length cap)) bs bm turn)) :: (bm, .obj (mapO (Value.int .i64) (mDel l id) c)) :: ((b, .cells 3 (cap * 1) (((del1 (idsAt L (e.lv * 64 + e.slot)) id)).map (Value.int .i64))) :: ((XS.set (e.lv * 64 + e.slot) []).flatten ++ H))) Tryd.results66 rfl (.nil _) (by repeat (first | with_reducible exact HSub.refl _ | refine HSub.cons (by repeat (first | exact Take.here _ | apply Take.next | apply Take.app)) ?_ | refine HSub.app (by repeat (first | with_reducible exact TakeS.here _ | apply TakeS.next | apply TakeS.app)) ?_ | exact HSub.nil _ | exact HSub.refl _ | refine HSub.drop ?_ | refine HSub.dropS ?_)) ?_
    exact ⟨b, cap, rfl, by omega, hmax, by rw [if_neg q0]⟩
end Go.Proofs.YtknbohnoiigioaaDoor
namespace Go.Proofs.YtknbohnoiigioaaDoor
open Go Go.Sl
attribute [local irreducible] W
theorem LCalls.sub {P : Program} {w0 : World} {f : FuncId} {args : Array Value} {H : Heap} {R R' : Value → Heap → Prop} (h : LCalls P w0 f args H R) (hr : ∀ v H', R v H' → ∃ H2, HSub H' H2 ∧ R' v H2) : LCalls P w0 f args H R' :=
  fun w hs => (h w hs).mono fun _ _ ⟨v, H', e, r, s⟩ => by
    obtain ⟨H2, h1, h2⟩ := hr _ _ r
    exact ⟨v, H2, e, h2, s.hsub h1⟩
theorem delT_out {L : List Tm} {id : Int} (h : id ∉ L.map (·.id)) : delT L id = L := by
  unfold delT
  rw [List.filter_eq_self]
  exact fun t ht => decide_eq_true (fun e => h (e ▸ List.mem_map_of_mem ht))
def heldB (L : List Tm) (id : Int) : Bool := L.any (fun t => decide (t.id = id))
theorem heldB_iff {L : List Tm} {id : Int} : heldB L id = true ↔ id ∈ L.map (·.id) := by
  unfold heldB
  rw [List.any_eq_true, List.mem_map]
  exact ⟨fun ⟨t, h, e⟩ => ⟨t, h, of_decide_eq_true e⟩, fun ⟨t, h, e⟩ => ⟨t, h, decide_eq_true e⟩⟩
theorem del_L {w0 : World} {H HW : Heap} {bw now turn : Nat} {L : List Tm} {id : Int} (hW : WheelH bw now L turn HW) :
    LCalls Tryd.prog w0 66 #[.pointer (some ⟨bw, 0, none⟩), .int .i64 id] (HW ++ H) (fun v H' => ∃ HW', WheelH bw now (delT L id) turn HW' ∧ v = .bool (heldB L id) ∧ H' = HW' ++ H) := by
  cases hW with
  | @mk bm c sl XS bs l h =>
    by_cases hin : id ∈ L.map (·.id)
    · obtain ⟨t, ht, rfl⟩ := List.mem_map.1 hin
      obtain ⟨hv, hh⟩ := h.hit ht
      have hs := h.spot t ht
      obtain ⟨v0, X, hsl, hX, hO⟩ := h.own (t.s.lv * 64 + t.s.slot) (by omega)
      obtain ⟨z, hz, hz2, _⟩ := h.busy t.s.lv hs.1
      have hlen := Nat.le_trans (idsAt_len L (t.s.lv * 64 + t.s.slot)) h.len
      have hpos : 0 < (idsAt L (t.s.lv * 64 + t.s.slot)).length := List.length_pos_of_mem (idsAt_mem.2 ⟨t, ht, rfl, rfl⟩)
      have hcell : ∀ (b cap : Nat), (del1 (idsAt L t.key) t.id).length ≤ cap → cap ≤ maxLen → OwnS 3 1 (.slice (some ⟨b, 0, none⟩) (del1 (idsAt L t.key) t.id).length cap) (del1 (idsAt L t.key) t.id).length ((del1 (idsAt L t.key) t.id).map (Value.int .i64)) [(b, .cells 3 (cap * 1) ((del1 (idsAt L t.key) t.id).map (Value.int .i64)))] := fun b cap h1 h2 => .own (by rw [List.length_map, Nat.mul_one]) h1 h2
      refine LCalls.sub (del_at (H := H) h.row h.map hv hh hs hz hz2 hlen hpos hsl hX hO) ?_
      rintro v H' ⟨b, cap, rfl, hcap, hmax, rfl⟩
      refine ⟨_, ?_, _, .mk (bm := bm) (h.del ht (hcell b cap hcap hmax) hz rfl), by rw [heldB_iff.2 hin], rfl⟩
      exact .cons (.here _) (.cons (.here _) (flat_in (B := [_]) (by rw [h.xs]; omega)))
    · obtain ⟨hv, hh⟩ := h.miss hin
      refine (del_miss (H := XS.flatten ++ H) h.row hv hh).mono ?_
      rintro v H' ⟨rfl, rfl⟩
      refine ⟨_, by rw [delT_out hin]; exact .mk (bm := bm) h, ?_, rfl⟩
      cases hb : heldB L id with
      | false => rfl
      | true => exact absurd (heldB_iff.1 hb) hin
def delsT (L : List Tm) (l : List Int) : List Tm × Nat := l.foldl (fun s id => (delT s.1 id, s.2 + if heldB s.1 id = true then 1 else 0)) (L, 0)
theorem delsT_at {L : List Tm} {l : List Int} {i : Nat} {x : Int} (h : l[i]? = some x) : delsT L (l.take (i + 1)) = (delT (delsT L (l.take i)).1 x, (delsT L (l.take i)).2 + if heldB (delsT L (l.take i)).1 x = true then 1 else 0) := by
  unfold delsT
  rw [takeAt h, List.foldl_append]; rfl
theorem delsT_le (L : List Tm) (l : List Int) : ∀ i, i ≤ l.length → (delsT L (l.take i)).2 ≤ i
  | 0, _ => by simp [delsT]
  | i + 1, h => by
    obtain ⟨x, hx⟩ : ∃ x, l[i]? = some x := ⟨_, List.getElem?_eq_getElem (by omega)⟩
    have := delsT_le L l i (by omega)
    rw [delsT_at hx]
    dsimp only
    split <;> omega
set_option maxHeartbeats 1000000 in
theorem Del_L {w0 : World} {H : Heap} {HW : Heap} {bw now turn cap : Nat} {L : List Tm} {l : List Int} {ad : Option Addr} (hW : WheelH bw now L turn HW) (hn : l.length ≤ 4611686018427387904) (hrow : Holds w0 H ad (l.map (Value.int .i64)))  : LCalls Tryd.prog w0 46 #[.pointer (some ⟨bw, 0, none⟩), .slice ad l.length cap] (HW ++ H) (fun v H' => ∃ HW', WheelH bw now (delsT L l).1 turn HW' ∧ v = .int .i64 ((delsT L l).2 : Int) ∧ H' = HW' ++ H) := by
  refine L_enter (l := [.pointer (some ⟨bw, 0, none⟩), .slice ad l.length cap]) Tryd.func46 rfl Tryd.ntmps46 rfl rfl ?_
  refine W_sr ?_
  refine W_assign rfl rfl ?_
  refine W_nil ?_
  refine W_sr ?_
  refine W_assign rfl rfl ?_
  refine W_nil ?_
  refine W_seq ?_
  refine W_sr ?_
  refine W_move rfl rfl ?_
  refine W_len rfl ty35 rfl rfl ?_
  refine W_move rfl rfl ?_
  refine W_nil ?_
  refine W_block ?_
  refine W_loopC (X := (Nat × Heap)) [(0, _), (8, _), (9, _)] (fun (x : (Nat × Heap)) => [(5, .int .i64 ((delsT L (l.take x.1)).2 : Int)), (10, .int .i64 (x.1 : Int))]) (fun _ => _) (fun (x : (Nat × Heap)) => x.2 ++ H) (fun (x : (Nat × Heap)) => x.1 ≤ l.length ∧ WheelH bw now (delsT L (l.take x.1)).1 turn x.2) (fun (x : (Nat × Heap)) => l.length - x.1) (0, HW) ⟨Nat.zero_le _, hW⟩ (sub_cons rfl (sub_cons rfl (sub_cons rfl (sub_nil _)))) (sub_cons rfl (sub_cons rfl (sub_nil _))) rfl (.refl _) ?_
  rintro ⟨i, HWi⟩ ⟨hi, hWi⟩
  dsimp only at hi hWi ⊢
  simp only [List.cons_append, List.nil_append]
  refine W_sr ?_
  refine W_bin rfl rfl b_lss rfl ?_
  refine W_nil ?_
  refine W_seq ?_
  refine W_condPS (p := (i : Int) < (l.length : Int)) rfl (by simp) (fun q0 => ?_) (fun q0 => ?_)
  · skip
    refine W_skip ?_
    refine W_seq ?_
    refine W_block ?_
    refine W_sr ?_
    obtain ⟨x, hx⟩ : ∃ x, l[i]? = some x := ⟨_, List.getElem?_eq_getElem (by omega)⟩
    obtain ⟨q0, p0, rfl, hc⟩ := hrow.at (i := i) (v := .int .i64 x) (by rw [List.getElem?_map, hx]; rfl)
    have hat := delsT_at (L := L) hx
    have hle := delsT_le L l i (by omega)
    refine W_indexAddr (j := i) rfl rfl ty35 ty3 rfl (by omega) rfl rfl ?_
    refine W_load (v := .int .i64 x) rfl ty3 rfl (by rw [Nat.mul_one (i)]; exact hc.up (by repeat (first | with_reducible exact HSub.refl _ | refine HSub.cons (by repeat (first | exact Take.here _ | apply Take.next | apply Take.app)) ?_ | refine HSub.app (by repeat (first | with_reducible exact TakeS.here _ | apply TakeS.next | apply TakeS.app)) ?_ | exact HSub.nil _ | exact HSub.refl _ | refine HSub.drop ?_ | refine HSub.dropS ?_))) rfl ?_
    refine W_assign rfl rfl ?_
    refine W_nil ?_
    refine W_sr ?_
    refine W_move rfl rfl ?_
    refine W_x (X_ptrNotNil rfl rfl ty24) (fun _ h => by cases h) rfl ?_
    refine W_move rfl rfl ?_
    refine W_gyes rfl rfl ?_
    refine W_move rfl rfl ?_
    refine W_gyes rfl rfl ?_
    refine W_move rfl rfl ?_
    refine W_gyes rfl rfl ?_
    refine W_call (.cons rfl (.cons rfl .nil)) Tryd.call66 rfl (del_L (id := x) hWi) ?_
    rintro v H' ⟨HW', hW', rfl, rfl⟩
    rcases hb : heldB (delsT L (l.take i)).1 x with _ | _
    · skip
      have hn2 : (delsT L (l.take i)).2 = (delsT L (l.take (i + 1))).2 := by rw [hat, hb]; rfl
      rw [hn2]
      first | refine W_pickt rfl rfl rfl ?_ | refine W_pickf rfl rfl rfl ?_
      refine W_nil ?_
      refine W_condF rfl rfl ?_
      refine W_skip ?_
      refine W_blk ?_
      refine W_region ?_
      refine W_bin rfl rfl (b_add (m := ((i + 1 : Nat) : Int)) (by rw [i64w (by omega)]; omega)) rfl ?_
      refine W_move rfl rfl ?_
      refine W_nil ?_
      refine W_again (i + 1, HW') ⟨by show i + 1 ≤ l.length; omega, by show WheelH bw now (delsT L (l.take (i + 1))).1 turn HW'; rw [hat]; exact hW'⟩ (by show l.length - (i + 1) < l.length - i; omega) (sub_cons rfl (sub_cons rfl (sub_cons rfl (sub_cons rfl (sub_cons rfl (sub_nil _)))))) rfl (.refl _)
    · skip
      have hn2 : (delsT L (l.take i)).2 + 1 = (delsT L (l.take (i + 1))).2 := by rw [hat, hb]; rfl
      first | refine W_pickt rfl rfl rfl ?_ | refine W_pickf rfl rfl rfl ?_
      refine W_nil ?_
      refine W_condT rfl rfl ?_
      refine W_region ?_
      refine W_move rfl rfl ?_
      refine W_bin rfl rfl (b_add (m := ((delsT L (l.take (i + 1))).2 : Int)) (by rw [i64w (by omega)]; omega)) rfl ?_
      refine W_assign rfl rfl ?_
      refine W_nil ?_
      refine W_blk ?_
      refine W_region ?_
      refine W_bin rfl rfl (b_add (m := ((i + 1 : Nat) : Int)) (by rw [i64w (by omega)]; omega)) rfl ?_
      refine W_move rfl rfl ?_
      refine W_nil ?_
      refine W_again (i + 1, HW') ⟨by show i + 1 ≤ l.length; omega, by show WheelH bw now (delsT L (l.take (i + 1))).1 turn HW'; rw [hat]; exact hW'⟩ (by show l.length - (i + 1) < l.length - i; omega) (sub_cons rfl (sub_cons rfl (sub_cons rfl (sub_cons rfl (sub_cons rfl (sub_nil _)))))) rfl (.refl _)
  · skip
    refine W_exit rfl ?_
    refine W_sr ?_
    refine W_move rfl rfl ?_
    refine W_assign rfl rfl ?_
    refine W_nil ?_
    refine W_ret1m Tryd.results46 rfl (.nil _) (.refl _) ?_
    obtain rfl : i = l.length := by omega
    rw [List.take_length] at hWi ⊢
    exact ⟨HWi, hWi, rfl, rfl⟩
end Go.Proofs.YtknbohnoiigioaaDoor
namespace Go.Proofs.YtknbohnoiigioaaDoor
open Go Go.Sl
attribute [local irreducible] W
theorem tickT_inj {x y n : Nat} (hx : x * 8 ^ n < 18446744073709551615 + 8 ^ n) (hy : y * 8 ^ n < 18446744073709551615 + 8 ^ n) (e : tickT x n = tickT y n) : x = y := by
  have key : ∀ {a b : Nat}, a * 8 ^ n < 18446744073709551615 + 8 ^ n → 18446744073709551615 / 8 ^ n < a → ¬ 18446744073709551615 / 8 ^ n < b → 18446744073709551615 = b * 8 ^ n → False := fun {a b} h1 h2 h3 h4 => by
    cases n with
    | zero => simp at h1 h2; omega
    | succ m =>
      rw [Nat.pow_succ, ← Nat.mul_assoc] at h4
      generalize b * 8 ^ m = q at h4
      omega
  have hg : 0 < 8 ^ n := Nat.pow_pos (by omega)
  have cut : ∀ {a : Nat}, a * 8 ^ n < 18446744073709551615 + 8 ^ n → 18446744073709551615 / 8 ^ n < a → a = 18446744073709551615 / 8 ^ n + 1 := fun {a} h1 h2 => by
    have h3 := Nat.div_add_mod 18446744073709551615 (8 ^ n)
    have h4 := Nat.mod_lt 18446744073709551615 hg
    rw [Nat.mul_comm] at h3
    generalize 18446744073709551615 / 8 ^ n = k at *
    generalize 8 ^ n = g at *
    have h5 : a < k + 2 := Nat.lt_of_mul_lt_mul_right (a := g) (by rw [Nat.add_mul]; omega)
    omega
  unfold tickT at e
  by_cases c1 : 18446744073709551615 / 8 ^ n < x <;> by_cases c2 : 18446744073709551615 / 8 ^ n < y
  · rw [cut hx c1, cut hy c2]
  · rw [if_pos c1, if_neg c2] at e
    exact (key hx c1 c2 e).elim
  · rw [if_neg c1, if_pos c2] at e
    exact (key hy c2 c1 e.symm).elim
  · rw [if_neg c1, if_neg c2] at e
    exact Nat.eq_of_mul_eq_mul_right hg e
theorem filter_or {p q r : Tm → Bool} : ∀ (L : List Tm), (∀ t ∈ L, (r t = true ↔ p t = true ∨ q t = true) ∧ ¬ (p t = true ∧ q t = true)) → (L.filter p ++ L.filter q).Perm (L.filter r)
  | [], _ => .nil
  | t :: L, h => by
    have ih := filter_or L (fun u hu => h u (List.mem_cons_of_mem _ hu))
    obtain ⟨h1, h2⟩ := h t List.mem_cons_self
    cases hp : p t <;> cases hq : q t
    · rw [List.filter_cons_of_neg (by simp [hp]), List.filter_cons_of_neg (by simp [hq]), List.filter_cons_of_neg (by rw [h1, hp, hq]; simp)]; exact ih
    · rw [List.filter_cons_of_neg (by simp [hp]), List.filter_cons_of_pos hq, List.filter_cons_of_pos (h1.2 (.inr hq))]
      exact List.perm_middle.trans (ih.cons _)
    · rw [List.filter_cons_of_pos hp, List.filter_cons_of_neg (by simp [hq]), List.filter_cons_of_pos (h1.2 (.inl hp)), List.cons_append]
      exact ih.cons _
    · exact absurd ⟨hp, hq⟩ h2
/-- who is due, as the levels tell it -/
def duL (now at_ : Nat) (bs : List Nat) (L : List Tm) : Nat → List Int
  | 0 => []
  | n + 1 => match bs[n]? with
    | none => duL now at_ bs L n
    | some z => match aroundN z ((fromT now n : Nat) : Int) with
      | none => duL now at_ bs L n
      | some s => if timeT now n s = at_ then duL now at_ bs L n ++ idsAt L (n * 64 + s) else duL now at_ bs L n
theorem du_skip {now at_ n z : Nat} {bs : List Nat} {L : List Tm} (hz : bs[n]? = some z) (ha : aroundN z ((fromT now n : Nat) : Int) = none) : duL now at_ bs L (n + 1) = duL now at_ bs L n := by
  show (match bs[n]? with | none => _ | some z => _) = _
  rw [hz]; dsimp only; rw [ha]
theorem du_some {now at_ n z s : Nat} {bs : List Nat} {L : List Tm} (hz : bs[n]? = some z) (ha : aroundN z ((fromT now n : Nat) : Int) = some s) : duL now at_ bs L (n + 1) = if timeT now n s = at_ then duL now at_ bs L n ++ idsAt L (n * 64 + s) else duL now at_ bs L n := by
  show (match bs[n]? with | none => _ | some z => _) = _
  rw [hz]; dsimp only; rw [ha]
section
variable {now turn c at_ : Nat} {L : List Tm} {sl : List Value} {XS : List Heap} {bs : List Nat} {l : Ents Int}
theorem WhIs.dueOf (h : WhIs now L sl XS bs l c turn) (hnow : now ≤ 18446744073709551615) {u : Tm} (hu : u ∈ L) : u.s.due = timeT now u.s.lv u.s.slot := by
  obtain ⟨num, m1, m2, m3, m4, _⟩ := h.time u hu
  rw [m2, time_is hnow m3 m4 m1.symm]
theorem WhIs.sameSlot (h : WhIs now L sl XS bs l c turn) {t u : Tm} (ht : t ∈ L) (hu : u ∈ L) (el : t.s.lv = u.s.lv) (ed : t.s.due = u.s.due) : t.s.slot = u.s.slot := by
  obtain ⟨n1, a1, a2, a3, a4, a5⟩ := h.time t ht
  obtain ⟨n2, b1, b2, b3, b4, b5⟩ := h.time u hu
  rw [a2, b2, el] at ed
  rw [el] at a5
  rw [a1, b1, tickT_inj a5 b5 ed]
theorem WhIs.around (h : WhIs now L sl XS bs l c turn) {n z s : Nat} (hn : n < 8) (hnow : now ≤ 18446744073709551615) (hz : bs[n]? = some z) (ha : aroundN z ((fromT now n : Nat) : Int) = some s) :
    ∃ t ∈ L, t.s.lv = n ∧ t.s.slot = s ∧ t.s.due = timeT now n s := by
  obtain ⟨z', hz', _, hz3⟩ := h.busy n hn
  obtain rfl : z = z' := Option.some.inj (hz.symm.trans hz')
  have hx : now / 8 ^ n ≤ 18446744073709551615 := Nat.le_trans (Nat.div_le_self _ _) hnow
  obtain ⟨g1, g2, _⟩ := around_least hx ha
  obtain ⟨id, hid⟩ : ∃ id, id ∈ idsAt L (n * 64 + s) := List.exists_mem_of_ne_nil _ ((hz3 s g1).1 g2)
  obtain ⟨t, ht, hk, _⟩ := idsAt_mem.1 hid
  have hsp := h.spot t ht
  have hk2 : t.s.lv * 64 + t.s.slot = n * 64 + s := hk
  have hlv : t.s.lv = n := by omega
  have hsl : t.s.slot = s := by omega
  exact ⟨t, ht, hlv, hsl, by rw [h.dueOf hnow ht, hlv, hsl]⟩
theorem WhIs.noneAt (h : WhIs now L sl XS bs l c turn) {n z : Nat} (hn : n < 8) (hz : bs[n]? = some z) (ha : aroundN z ((fromT now n : Nat) : Int) = none) : ∀ t ∈ L, t.s.lv ≠ n := fun t ht e => by
  obtain ⟨z', hz', _, hz3⟩ := h.busy n hn
  obtain rfl : z = z' := Option.some.inj (hz.symm.trans hz')
  subst e
  have h1 := around_none ha t.s.slot (h.spot t ht).2
  have h2 := (hz3 t.s.slot (h.spot t ht).2).2 (fun e => by have := idsAt_mem.2 ⟨t, ht, rfl, rfl⟩; rw [show t.key = t.s.lv * 64 + t.s.slot from rfl, e] at this; cases this)
  rw [h1] at h2; cases h2
theorem WhIs.leastAt (h : WhIs now L sl XS bs l c turn) {n z s : Nat} (hn : n < 8) (hnow : now ≤ 18446744073709551615) (hz : bs[n]? = some z) (ha : aroundN z ((fromT now n : Nat) : Int) = some s) : ∀ u ∈ L, u.s.lv = n → timeT now n s ≤ u.s.due := fun u hu e => by
  obtain ⟨z', hz', _, hz3⟩ := h.busy n hn
  obtain rfl : z = z' := Option.some.inj (hz.symm.trans hz')
  have hx : now / 8 ^ n ≤ 18446744073709551615 := Nat.le_trans (Nat.div_le_self _ _) hnow
  obtain ⟨g1, g2, g3⟩ := around_least hx ha
  rw [h.dueOf hnow hu, e]
  have hm := g3 u.s.slot (h.spot u hu).2 ((e ▸ hz3 u.s.slot (h.spot u hu).2).2 (fun e2 => by have := idsAt_mem.2 ⟨u, hu, rfl, rfl⟩; rw [show u.key = u.s.lv * 64 + u.s.slot from rfl, e2] at this; cases this))
  unfold timeT
  have hmo := tickT_mono (n := n) (Nat.add_le_add_left hm (now / 8 ^ n))
  have hle := tickT_le (now / 8 ^ n + moreT (now / 8 ^ n) s) n
  split <;> split <;> omega
theorem du_perm (h : WhIs now L sl XS bs l c turn) (hnow : now ≤ 18446744073709551615) (hat : ∀ t ∈ L, at_ ≤ t.s.due) : ∀ n, n ≤ 8 → (duL now at_ bs L n).Perm ((L.filter (fun t => decide (t.s.lv < n) && decide (t.s.due = at_))).map (·.id))
  | 0, _ => by
    rw [List.filter_eq_nil_iff.2 (fun t _ => by simp)]
    exact .nil
  | n + 1, hn => by
    have ih := du_perm h hnow hat n (by omega)
    obtain ⟨z, hz, _, _⟩ := h.busy n (by omega)
    have same : (∀ t ∈ L, t.s.lv = n → t.s.due ≠ at_) → L.filter (fun t => decide (t.s.lv < n + 1) && decide (t.s.due = at_)) = L.filter (fun t => decide (t.s.lv < n) && decide (t.s.due = at_)) := fun hno => by
      refine List.filter_congr fun t ht => ?_
      have := hno t ht
      by_cases e : t.s.lv = n
      · rw [decide_eq_false (this e), Bool.and_false, Bool.and_false]
      · rw [show decide (t.s.lv < n + 1) = decide (t.s.lv < n) from decide_eq_decide.2 (by omega)]
    cases ha : aroundN z ((fromT now n : Nat) : Int) with
    | none =>
      rw [du_skip hz ha, same (fun t ht e => absurd e (h.noneAt (by omega) hz ha t ht))]
      exact ih
    | some s =>
      rw [du_some hz ha]
      obtain ⟨t0, ht0, e1, e2, e3⟩ := h.around (by omega) hnow hz ha
      by_cases ct : timeT now n s = at_
      · rw [if_pos ct]
        have hk : idsAt L (n * 64 + s) = (L.filter (fun t => decide (t.s.lv = n) && decide (t.s.due = at_))).map (·.id) := by
          unfold idsAt
          congr 1
          refine List.filter_congr fun t ht => ?_
          have hsp := h.spot t ht
          have hs64 := (h.spot t0 ht0).2
          rw [← Bool.decide_and]
          refine decide_eq_decide.2 ⟨fun hk => ?_, fun ⟨h1, h2⟩ => ?_⟩
          · have hk2 : t.s.lv * 64 + t.s.slot = n * 64 + s := hk
            have l1 : t.s.lv = n := by omega
            have l2 : t.s.slot = s := by omega
            exact ⟨l1, by rw [h.dueOf hnow ht, l1, l2, ct]⟩
          · have := h.sameSlot ht ht0 (by rw [h1, e1]) (by rw [h2, e3, ct])
            show t.s.lv * 64 + t.s.slot = _
            rw [h1, this, e2]
        rw [hk]
        refine (ih.append_right _).trans ?_
        rw [← List.map_append]
        refine List.Perm.map _ (filter_or L fun t ht => ⟨?_, ?_⟩)
        · simp only [Bool.and_eq_true, decide_eq_true_eq]; omega
        · simp only [Bool.and_eq_true, decide_eq_true_eq]; omega
      · rw [if_neg ct, same (fun t ht e ed => ct ?_)]
        · exact ih
        · have l1 := h.leastAt (by omega) hnow hz ha t ht e
          have l2 := hat t0 ht0
          rw [e3] at l2; omega
/-- who is due at a tick, in the order of Put -/
def dueAt (L : List Tm) (at_ : Nat) : List Tm := L.filter (fun t => decide (t.s.due = at_))
theorem du_all (h : WhIs now L sl XS bs l c turn) (hnow : now ≤ 18446744073709551615) (hat : ∀ t ∈ L, at_ ≤ t.s.due) : (duL now at_ bs L 8).Perm ((dueAt L at_).map (·.id)) := by
  refine (du_perm h hnow hat 8 (Nat.le_refl _)).trans ?_
  unfold dueAt
  rw [List.filter_congr (q := fun t => decide (t.s.due = at_)) fun t ht => by rw [decide_eq_true (h.spot t ht).1, Bool.true_and]]
/-- which one a timer was to be put -/
def tvN (L : List Tm) (id : Int) : Nat := match L.find? (fun t => decide (t.id = id)) with
  | some t => t.turn
  | none => 0
theorem tvN_in (h : (L.map (·.id)).Nodup) {t : Tm} (ht : t ∈ L) : tvN L t.id = t.turn := by
  unfold tvN
  cases hf : L.find? (fun u => decide (u.id = t.id)) with
  | none =>
    have := List.find?_eq_none.1 hf t ht
    exact absurd (decide_eq_true rfl) this
  | some u =>
    have h1 := List.find?_some hf
    obtain rfl : u = t := tm_uniq h (List.mem_of_find?_eq_some hf) ht (of_decide_eq_true h1)
    rfl
theorem WhIs.ent (h : WhIs now L sl XS bs l c turn) (id : Int) : ∃ e : Spot, (mGet l id).getD zEnt = .agg (e.v ++ [Value.int .i64 (((tvN L id) : Nat) : Int)]).toArray := by
  by_cases hin : id ∈ L.map (·.id)
  · obtain ⟨t, ht, rfl⟩ := List.mem_map.1 hin
    exact ⟨t.s, by rw [(h.hit ht).1, tvN_in h.nodup ht]⟩
  · refine ⟨zSpot, ?_⟩
    rw [(h.miss hin).1]
    have : tvN L id = 0 := by
      unfold tvN
      cases hf : L.find? (fun u => decide (u.id = id)) with
      | none => rfl
      | some u =>
        have h1 := List.find?_some hf
        have h2 : u.id = id := of_decide_eq_true h1
        exact absurd (h2 ▸ List.mem_map_of_mem (List.mem_of_find?_eq_some hf)) hin
    rw [this]; rfl
end
theorem asc_unique {K : Type} {τ : K → Nat} : ∀ {a b : List K}, a.Perm b → a.Pairwise (fun x y => τ x < τ y) → b.Pairwise (fun x y => τ x < τ y) → a = b
  | [], b, hp, _, _ => (List.Perm.nil_eq hp)
  | x :: a, b, hp, ha, hb => by
    cases b with
    | nil => exact absurd hp.length_eq (by simp)
    | cons y b =>
      have ha' := List.pairwise_cons.1 ha
      have hb' := List.pairwise_cons.1 hb
      have hxy : x = y := by
        rcases List.mem_cons.1 (hp.mem_iff.1 List.mem_cons_self) with h | h
        · exact h
        · rcases List.mem_cons.1 (hp.mem_iff.2 List.mem_cons_self) with h' | h'
          · exact h'.symm
          · have := hb'.1 x h; have := ha'.1 y h'; omega
      subst hxy
      rw [asc_unique (List.Perm.cons_inv hp) ha'.2 hb'.2]
theorem asc_inj {K : Type} {m : List K} {τ : K → Nat} (h : m.Pairwise (fun x y => τ x < τ y)) {x y : K} (hx : x ∈ m) (hy : y ∈ m) (e : τ x = τ y) : x = y := by
  obtain ⟨i, hi, rfl⟩ := List.getElem_of_mem hx
  obtain ⟨j, hj, rfl⟩ := List.getElem_of_mem hy
  have hp := List.pairwise_iff_getElem.1 h
  rcases Nat.lt_trichotomy i j with hij | rfl | hij
  · have := hp i j hi hj hij; omega
  · rfl
  · have := hp j i hj hi hij; omega
open Go.Proofs in
/-- what is sorted by the turn is in the order of Put -/
theorem sorted_is {K : Type} {m d : List K} {τ : K → Nat} (hp : d.Perm m) (hn : m.Nodup) (h : m.Pairwise (fun x y => τ x < τ y))
    (hs : ∀ (i j : Nat) x y, i < j → d[i]? = some x → d[j]? = some y → ltOf (fun x y => Lib.compareInt (τ x : Int) (τ y : Int)) y x = false) : d = m := by
  refine asc_unique hp (List.pairwise_iff_getElem.2 fun i j hi hj hij => ?_) h
  have h1 := lt_key _ (hs i j _ _ hij (List.getElem?_eq_getElem hi) (List.getElem?_eq_getElem hj))
  have mi : d[i] ∈ m := hp.mem_iff.1 (List.getElem_mem hi)
  have mj : d[j] ∈ m := hp.mem_iff.1 (List.getElem_mem hj)
  have hne : τ d[i] ≠ τ d[j] := fun e => by
    have := asc_inj h mi mj e
    exact (List.pairwise_iff_getElem.1 (hp.nodup_iff.2 hn)) i j hi hj hij this
  omega
theorem WhIs.dueAsc {now turn c : Nat} {L : List Tm} {sl : List Value} {XS : List Heap} {bs : List Nat} {l : Ents Int} (h : WhIs now L sl XS bs l c turn) (at_ : Nat) : ((dueAt L at_).map (·.id)).Nodup ∧ ((dueAt L at_).map (·.id)).Pairwise (fun x y => tvN L x < tvN L y) := by
  refine ⟨h.nodup.sublist (List.Sublist.map _ List.filter_sublist), ?_⟩
  rw [List.pairwise_map]
  have h1 : (dueAt L at_).Pairwise (fun a b => a.turn < b.turn) := h.turns.sublist List.filter_sublist
  refine (List.pairwise_iff_getElem.2 fun i j hi hj hij => ?_)
  have h2 := List.pairwise_iff_getElem.1 h1 i j hi hj hij
  rw [tvN_in h.nodup (List.mem_filter.1 (List.getElem_mem hi)).1, tvN_in h.nodup (List.mem_filter.1 (List.getElem_mem hj)).1]
  exact h2
end Go.Proofs.YtknbohnoiigioaaDoor
namespace Go.Proofs.YtknbohnoiigioaaDoor
open Go Go.Sl
attribute [local irreducible] W
open Go.Proofs
theorem cmp_reads {now turn c bw bm b2 : Nat} {L : List Tm} {sl : List Value} {XS : List Heap} {bs : List Nat} {l : Ents Int} (h : WhIs now L sl XS bs l c turn) {w0 : World} {H : Heap} {C : World → Prop} (hC : ∀ w, C w → C w.drew) (hCS : ∀ w, C w → Sat w0 ((b2, .cells 24 1 [.pointer (some ⟨bw, 0, none⟩)]) :: (bw, .cells 102 523 (whRow now sl bs bm turn)) :: (bm, .obj (mapO (Value.int .i64) l c)) :: H) w) (x y : Int) :
    ∀ w, C w → CallsIn Fence.wide 0 Tryd.prog 76 [(Value.int .i64) x, (Value.int .i64) y, .pointer (some ⟨b2, 0, none⟩)].toArray w fun e w' => e = .returned (.int .i64 (Lib.compareInt (tvN L x : Int) (tvN L y : Int))) ∧ C w' := by
  obtain ⟨ex, hx⟩ := h.ent x
  obtain ⟨ey, hy⟩ := h.ent y
  refine R_enter Tryd.func76 rfl Tryd.ntmps76 rfl rfl rfl (by kernel_rfl) (by decide +kernel) hC ?_
  refine WR_x (Ex.mono hCS (X_load (v := .pointer (some ⟨bw, 0, none⟩)) rfl ty24 rfl (Cell.own (b := b2) (by repeat (first | exact List.mem_cons_self | apply List.mem_cons_of_mem | apply List.mem_append_right)) rfl))) rfl ?_
  refine WR_x (Ex.mono hCS (X_nilCheck rfl)) rfl ?_
  refine WR_x (Ex.mono hCS (X_fieldAddr rfl fld102_3 (by decide))) rfl ?_
  refine WR_x (Ex.mono hCS (X_load (v := .map (some bm)) rfl ty97 rfl (Cell.own (b := bw) (by repeat (first | exact List.mem_cons_self | apply List.mem_cons_of_mem | apply List.mem_append_right)) (wh_map h.row)))) rfl ?_
  refine WR_x (Ex.mono hCS (X_move rfl)) rfl ?_
  refine WR_x (Ex.mono hCS (X_lookup (b := bm) (a := x) (zE := zEnt) rfl rfl keyI ty97 zEz (by repeat (first | exact List.mem_cons_self | apply List.mem_cons_of_mem | apply List.mem_append_right)))) rfl ?_
  simp only [Bool.false_eq_true, if_false]
  rw [hx]
  refine WR_x (Ex.mono hCS (X_field rfl fld104_1 rfl)) rfl ?_
  refine WR_x (Ex.mono hCS (X_load (v := .pointer (some ⟨bw, 0, none⟩)) rfl ty24 rfl (Cell.own (b := b2) (by repeat (first | exact List.mem_cons_self | apply List.mem_cons_of_mem | apply List.mem_append_right)) rfl))) rfl ?_
  refine WR_x (Ex.mono hCS (X_nilCheck rfl)) rfl ?_
  refine WR_x (Ex.mono hCS (X_fieldAddr rfl fld102_3 (by decide))) rfl ?_
  refine WR_x (Ex.mono hCS (X_load (v := .map (some bm)) rfl ty97 rfl (Cell.own (b := bw) (by repeat (first | exact List.mem_cons_self | apply List.mem_cons_of_mem | apply List.mem_append_right)) (wh_map h.row)))) rfl ?_
  refine WR_x (Ex.mono hCS (X_move rfl)) rfl ?_
  refine WR_x (Ex.mono hCS (X_lookup (b := bm) (a := y) (zE := zEnt) rfl rfl keyI ty97 zEz (by repeat (first | exact List.mem_cons_self | apply List.mem_cons_of_mem | apply List.mem_append_right)))) rfl ?_
  simp only [Bool.false_eq_true, if_false]
  rw [hy]
  refine WR_x (Ex.mono hCS (X_field rfl fld104_1 rfl)) rfl ?_
  refine WR_call (.cons rfl (.cons rfl .nil)) Tryd.call77 rfl (fun w _ => Tryd.cmp_Compare_int (tvN L x : Int) (tvN L y : Int) w) ?_
  refine WR_x (Ex.mono hCS (X_assign rfl)) rfl ?_
  exact WR_ret Tryd.results76 rfl
open Go.Proofs in
theorem sort_L {now turn c bw bm b2 : Nat} {L : List Tm} {sl : List Value} {XS : List Heap} {bs : List Nat} {l : Ents Int} (h : WhIs now L sl XS bs l c turn) {w0 : World} {H : Heap} {b tot cap : Nat} {d : List Int} (hd : d.length < 4611686018427387904) :
    LCalls Tryd.prog w0 75 #[.slice (some ⟨b, 0, none⟩) d.length cap, .func (.func 76) #[] #[.pointer (some ⟨b2, 0, none⟩)]] ((b, .cells 3 tot (d.map (Value.int .i64))) :: (b2, .cells 24 1 [.pointer (some ⟨bw, 0, none⟩)]) :: (bw, .cells 102 523 (whRow now sl bs bm turn)) :: (bm, .obj (mapO (Value.int .i64) l c)) :: H)
      (fun v H' => v = .tuple #[] ∧ ∃ d' : List Int, d'.Perm d ∧ (∀ (i j : Nat) x y, i < j → d'[i]? = some x → d'[j]? = some y → ltOf (fun x y => Lib.compareInt (tvN L x : Int) (tvN L y : Int)) y x = false) ∧ H' = (b, .cells 3 tot (d'.map (Value.int .i64))) :: (b2, .cells 24 1 [.pointer (some ⟨bw, 0, none⟩)]) :: (bw, .cells 102 523 (whRow now sl bs bm turn)) :: (bm, .obj (mapO (Value.int .i64) l c)) :: H) :=
  L_sort fun w hs => by
    have hlt : b < w.heap.size := (hs.own _ List.mem_cons_self).2.lt
    have := Tryd.slices_SortFunc (Value.int .i64) (fun _ => rfl) (fun x y => Lib.compareInt (tvN L x : Int) (tvN L y : Int)) (swo_key (fun x => (tvN L x : Int))) 76 #[.pointer (some ⟨b2, 0, none⟩)] b 0 cap d.toArray w Tryd.call76 (Go.Proofs.CmpReads.lays fun n os dk hdk x y => by
      have hsz : dk.size = d.length := by rw [hdk]; simp
      have hS : Sat w0 ((b, .cells 3 tot (dk.toList.map (Value.int .i64))) :: (b2, .cells 24 1 [.pointer (some ⟨bw, 0, none⟩)]) :: (bw, .cells 102 523 (whRow now sl bs bm turn)) :: (bm, .obj (mapO (Value.int .i64) l c)) :: H) (sortWorld (Value.int .i64) w b 0 n dk os) := sat_sortWorld hs hsz
      have h := cmp_reads (C := fun w' => ∃ q, w' = (sortWorld (Value.int .i64) w b 0 n dk os).drewN q) h (fun w' ⟨q, e⟩ => ⟨q + 1, by rw [e]; rfl⟩) (fun w' ⟨q, e⟩ => by rw [e]; exact (hS.drewN q).drop) x y _ ⟨0, rfl⟩
      exact callsIn_wide.1 h) (holds_row hs) hlt (by simpa using hd)
    simpa using this
theorem du_len {now at_ : Nat} {bs : List Nat} {L : List Tm} : ∀ n, (duL now at_ bs L n).length ≤ n * L.length
  | 0 => Nat.zero_le _
  | n + 1 => by
    have ih := du_len (now := now) (at_ := at_) (bs := bs) (L := L) n
    rw [Nat.add_mul]
    unfold duL
    split
    · omega
    · split
      · omega
      · split
        · rw [List.length_append]
          rename_i s _ _
          have := idsAt_len L (n * 64 + s)
          omega
        · omega
theorem OwnS.holds {w0 : World} {e : TypeId} {s : Nat} {ad : Option Addr} {n cap : Nat} {xs : List Value} {HB H : Heap} (h : OwnS e s (.slice ad n cap) n xs HB) (hs : ∀ p ∈ HB, p ∈ H) : Holds w0 H ad xs := by
  generalize hv : Value.slice ad n cap = v at h
  cases h with
  | nil => exact Holds.nil
  | own _ _ _ =>
    obtain ⟨rfl, _⟩ : ad = _ ∧ True := by simp at hv; exact ⟨hv.1, trivial⟩
    exact Holds.own (hs _ List.mem_cons_self)
set_option maxHeartbeats 4000000 in
theorem due_at {w0 : World} {H : Heap} {now turn c bw bm at_ : Nat} {L : List Tm} {sl : List Value} {XS : List Heap} {bs : List Nat} {l : Ents Int} (h : WhIs now L sl XS bs l c turn) (hnow : now ≤ 18446744073709551615) (hbs : ∀ z ∈ bs, z < 18446744073709551616) (hpos : 0 < (duL now at_ bs L 8).length) (hT : Tab w0) : LCalls Tryd.prog w0 53 #[.pointer (some ⟨bw, 0, none⟩), .int .u64 ((at_ : Nat) : Int)] ((bw, .cells 102 523 (whRow now sl bs bm turn)) :: (bm, .obj (mapO (Value.int .i64) l c)) :: (XS.flatten ++ H)) (fun v H' => ∃ (b cap : Nat) (d' : List Int), v = .slice (some ⟨b, 0, none⟩) d'.length cap ∧ d'.length ≤ cap ∧ cap ≤ maxLen ∧ d'.Perm (duL now at_ bs L 8) ∧ (∀ (i j : Nat) x y, i < j → d'[i]? = some x → d'[j]? = some y → ltOf (fun x y => Lib.compareInt (tvN L x : Int) (tvN L y : Int)) y x = false) ∧ H' = (b, .cells 3 (cap * 1) ((d').map (Value.int .i64))) :: (bw, .cells 102 523 (whRow now sl bs bm turn)) :: (bm, .obj (mapO (Value.int .i64) l c)) :: (XS.flatten ++ H)) := by
  have hlen0 := h.len
  have hdl0 := du_len (now := now) (at_ := at_) (bs := bs) (L := L) 8
  refine L_enter (l := [.pointer (some ⟨bw, 0, none⟩), .int .u64 ((at_ : Nat) : Int)]) Tryd.func53 rfl Tryd.ntmps53 rfl rfl ?_
  refine W_sr ?_
  refine W_box (l := [.pointer (some ⟨bw, 0, none⟩)]) rfl rfl rfl (fun b2 => ?_)
  refine W_box (l := [.int .u64 (at_ : Int)]) rfl rfl rfl (fun b3 => ?_)
  refine W_assign rfl rfl ?_
  refine W_nil ?_
  refine W_sr ?_
  refine W_alloc (l := [.slice none 0 0]) ty35 rfl rfl (fun b5 => ?_)
  refine W_nil ?_
  refine W_seq ?_
  refine W_sr ?_
  refine W_load (v := .pointer (some ⟨bw, 0, none⟩)) rfl ty24 rfl (Cell.own (b := b2) (by repeat (first | exact List.mem_cons_self | apply List.mem_cons_of_mem | apply List.mem_append_right)) rfl) rfl ?_
  refine W_call (.cons rfl .nil) Tryd.call52 rfl (near_L (bw := bw)) ?_
  rintro v H' ⟨b1, rfl, rfl⟩
  refine W_nil ?_
  refine W_block ?_
  refine W_rangeFunc rfl Tryd.call71 ?_
  intro lp D r hst hpd hps hasg hbody hA
  have hr := loop_ready hst hpd
  show LCalls _ _ _ #[_, _] _ _
  refine ((near_iter (b1 := b1) (bw := bw) (bm := bm) (now := now) (turn := turn) (sl := sl) (bs := bs) (H := (lp, .obj (.loop r)) :: (D, .obj (.deferred (some []))) :: (b5, .cells 35 1 [.slice none 0 0]) :: (b3, .cells 22 1 [.int .u64 (at_ : Int)]) :: (b2, .cells 24 1 [.pointer (some ⟨bw, 0, none⟩)]) :: ([] ++ ((bm, .obj (mapO (Value.int .i64) l c)) :: (XS.flatten ++ H)))) hT h.row hnow hbs (fun n Hi => ∃ v X, OwnS 3 1 v (duL now at_ bs L n).length ((duL now at_ bs L n).map (Value.int .i64)) X ∧ Hi = (lp, .obj (.loop r)) :: (D, .obj (.deferred (some []))) :: (b5, .cells 35 1 [v]) :: (b3, .cells 22 1 [.int .u64 (at_ : Int)]) :: (b2, .cells 24 1 [.pointer (some ⟨bw, 0, none⟩)]) :: (X ++ ((bm, .obj (mapO (Value.int .i64) l c)) :: (XS.flatten ++ H)))) (fun n z Hi _ hz ha hJ => by obtain ⟨v, X, h1, h2⟩ := hJ; exact ⟨v, X, by rw [du_skip hz ha]; exact h1, h2⟩) ?_ ⟨_, [], OwnS.nil, rfl⟩).hsub (show HSub _ ((b1, .cells 24 1 [.pointer (some ⟨bw, 0, none⟩)]) :: (bw, .cells 102 523 (whRow now sl bs bm turn)) :: (lp, .obj (.loop r)) :: (D, .obj (.deferred (some []))) :: (b5, .cells 35 1 [.slice none 0 0]) :: (b3, .cells 22 1 [.int .u64 (at_ : Int)]) :: (b2, .cells 24 1 [.pointer (some ⟨bw, 0, none⟩)]) :: ((bm, .obj (mapO (Value.int .i64) l c)) :: (XS.flatten ++ H))) from (by repeat (first | with_reducible exact HSub.refl _ | refine HSub.cons (by repeat (first | exact Take.here _ | apply Take.next | apply Take.app)) ?_ | refine HSub.app (by repeat (first | with_reducible exact TakeS.here _ | apply TakeS.next | apply TakeS.app)) ?_ | exact HSub.nil _ | exact HSub.refl _ | refine HSub.drop ?_ | refine HSub.dropS ?_)))).mono ?_
  · intro n s z Hi hn hz ha hJ
    obtain ⟨v, X, hO, rfl⟩ := hJ
    obtain ⟨t, ht⟩ : ∃ t, t = timeT now n s := ⟨_, rfl⟩
    rw [← ht]
    have hs64 := (aroundN_is ha).1
    have hstep := du_some (now := now) (at_ := at_) (L := L) hz ha
    rw [← ht] at hstep
    refine round_intro hst hpd hA hps rfl hasg rfl rfl rfl (by repeat (first | exact Take.here _ | apply Take.next | apply Take.app)) ?_
    refine W_sr ?_
    refine W_alloc (l := zSpot.v) ty27 rfl rfl (fun b6 => ?_)
    refine W_storeA (l' := [.int .i64 (n : Int), .int .i64 (s : Int), .int .u64 0, .int .u64 0]) rfl rfl ty27 rfl rfl (b := b6) (by repeat (first | exact List.mem_cons_self | apply List.mem_cons_of_mem | apply List.mem_append_right)) (by exact Nat.le_refl 4) rfl (by repeat (first | exact Upd.head _ | apply Upd.tail | apply Upd.app)) ?_
    refine W_nil ?_
    refine W_region ?_
    refine W_assign rfl rfl ?_
    refine W_nil ?_
    refine W_begin hst hpd (by repeat (first | exact Take.here _ | apply Take.next | apply Take.app)) hbody ?_
    refine W_block ?_
    refine W_sr ?_
    refine W_move rfl rfl ?_
    refine W_load (v := .int .u64 (at_ : Int)) rfl ty22 rfl (Cell.own (b := b3) (by repeat (first | exact List.mem_cons_self | apply List.mem_cons_of_mem | apply List.mem_append_right)) rfl) rfl ?_
    refine W_bin rfl rfl b_eql rfl ?_
    refine W_nil ?_
    refine W_condPS (p := t = at_) rfl (by rw [decide_eq_true_eq]; exact Int.ofNat_inj) (fun q0 => ?_) (fun q0 => ?_)
    · skip
      obtain ⟨vs, Xs, hsl, hXs, hOs⟩ := h.own (n * 64 + s) (by omega)
      obtain ⟨ads, caps, rfl, _, _⟩ := hOs.shape
      have hlen := h.len
      have hil := idsAt_len L (n * 64 + s)
      have hdl := du_len (now := now) (at_ := at_) (bs := bs) (L := L) n
      have hn256 : n * L.length ≤ 8 * 256 := Nat.mul_le_mul (by omega) hlen
      have hmem : ∀ p ∈ Xs, p ∈ XS.flatten := fun p hp => List.mem_flatten.2 ⟨Xs, List.mem_of_getElem? hXs, hp⟩
      refine Rd.W_anyS [(b5, .cells 35 1 [v]), (b2, .cells 24 1 [.pointer (some ⟨bw, 0, none⟩)]), (b6, .cells 27 4 [.int .i64 (n : Int), .int .i64 (s : Int), .int .u64 0, .int .u64 0]), (bw, .cells 102 523 (whRow now sl bs bm turn))] 12 (by kernel_rfl) ?_
      refine Rd.WS_take 0 (l' := #[true, false, false, false, false, false, false, false, false, false, false, false, false]) rfl rfl (by decide +kernel) (by decide +kernel) (by decide +kernel) (by decide +kernel) (by decide +kernel) rfl (by decide +kernel) (X_load (v := v) rfl ty35 rfl (Cell.own (b := b5) (by repeat (first | exact List.mem_cons_self | apply List.mem_cons_of_mem | apply List.mem_append_right)) rfl)) rfl ?_
      refine Rd.WS_take 1 (l' := #[true, true, false, false, false, false, false, false, false, false, false, false, false]) rfl rfl (by decide +kernel) (by decide +kernel) (by decide +kernel) (by decide +kernel) (by decide +kernel) rfl (by decide +kernel) (X_load (v := .pointer (some ⟨bw, 0, none⟩)) rfl ty24 rfl (Cell.own (b := b2) (by repeat (first | exact List.mem_cons_self | apply List.mem_cons_of_mem | apply List.mem_append_right)) rfl)) rfl ?_
      refine Rd.WS_take 2 (l' := #[true, true, true, false, false, false, false, false, false, false, false, false, false]) rfl rfl (by decide +kernel) (by decide +kernel) (by decide +kernel) (by decide +kernel) (by decide +kernel) rfl (by decide +kernel) (X_fieldAddr rfl fld27_0 (by decide)) rfl ?_
      refine Rd.WS_take 3 (l' := #[true, true, true, true, false, false, false, false, false, false, false, false, false]) rfl rfl (by decide +kernel) (by decide +kernel) (by decide +kernel) (by decide +kernel) (by decide +kernel) rfl (by decide +kernel) (X_load (v := .int .i64 (n : Int)) rfl ty3 rfl (Cell.own (b := b6) (by repeat (first | exact List.mem_cons_self | apply List.mem_cons_of_mem | apply List.mem_append_right)) rfl)) rfl ?_
      refine Rd.WS_take 4 (l' := #[true, true, true, true, true, false, false, false, false, false, false, false, false]) rfl rfl (by decide +kernel) (by decide +kernel) (by decide +kernel) (by decide +kernel) (by decide +kernel) rfl (by decide +kernel) (X_fieldAddr rfl fld27_1 (by decide)) rfl ?_
      refine Rd.WS_take 5 (l' := #[true, true, true, true, true, true, false, false, false, false, false, false, false]) rfl rfl (by decide +kernel) (by decide +kernel) (by decide +kernel) (by decide +kernel) (by decide +kernel) rfl (by decide +kernel) (X_load (v := .int .i64 (s : Int)) rfl ty3 rfl (Cell.own (b := b6) (by repeat (first | exact List.mem_cons_self | apply List.mem_cons_of_mem | apply List.mem_append_right)) rfl)) rfl ?_
      refine Rd.WS_take 6 (l' := #[true, true, true, true, true, true, true, false, false, false, false, false, false]) rfl rfl (by decide +kernel) (by decide +kernel) (by decide +kernel) (by decide +kernel) (by decide +kernel) rfl (by decide +kernel) (X_nilCheck rfl) rfl ?_
      refine Rd.WS_take 7 (l' := #[true, true, true, true, true, true, true, true, false, false, false, false, false]) rfl rfl (by decide +kernel) (by decide +kernel) (by decide +kernel) (by decide +kernel) (by decide +kernel) rfl (by decide +kernel) (X_fieldAddr rfl fld102_1 (by decide)) rfl ?_
      refine Rd.WS_take 8 (l' := #[true, true, true, true, true, true, true, true, true, false, false, false, false]) rfl rfl (by decide +kernel) (by decide +kernel) (by decide +kernel) (by decide +kernel) (by decide +kernel) rfl (by decide +kernel) (X_indexAddrA (j := n) rfl rfl ty99 ty98 rfl hn (at_ := 1 + n * 64) (by omega)) rfl ?_
      refine Rd.WS_take 9 (l' := #[true, true, true, true, true, true, true, true, true, true, false, false, false]) rfl rfl (by decide +kernel) (by decide +kernel) (by decide +kernel) (by decide +kernel) (by decide +kernel) rfl (by decide +kernel) (X_indexAddrA (j := s) rfl rfl ty98 ty35 rfl hs64 (at_ := 1 + (n * 64 + s)) (by omega)) rfl ?_
      refine Rd.WS_take 10 (l' := #[true, true, true, true, true, true, true, true, true, true, true, false, false]) rfl rfl (by decide +kernel) (by decide +kernel) (by decide +kernel) (by decide +kernel) (by decide +kernel) rfl (by decide +kernel) (X_load (v := .slice ads (idsAt L (n * 64 + s)).length caps) rfl ty35 rfl (Cell.own (b := bw) (by repeat (first | exact List.mem_cons_self | apply List.mem_cons_of_mem | apply List.mem_append_right)) (wh_sl h.row hsl))) rfl ?_
      refine Rd.WS_one 11 (l' := #[true, true, true, true, true, true, true, true, true, true, true, true, false]) (by repeat (first | with_reducible exact HSub.refl _ | refine HSub.cons (by repeat (first | exact Take.here _ | apply Take.next | apply Take.app)) ?_ | refine HSub.app (by repeat (first | with_reducible exact TakeS.here _ | apply TakeS.next | apply TakeS.app)) ?_ | exact HSub.nil _ | exact HSub.refl _ | refine HSub.drop ?_ | refine HSub.dropS ?_)) rfl (by decide +kernel) rfl (by decide +kernel) ?_
      refine W_append (news := (idsAt L (n * 64 + s)).map (Value.int .i64)) (m := (idsAt L (n * 64 + s)).length) (HB := X) (H0 := (lp, .obj (.loop (Loop.at r .busy none))) :: (b6, .cells 27 4 [.int .i64 (n : Int), .int .i64 (s : Int), .int .u64 0, .int .u64 0]) :: (b1, .cells 24 1 [.pointer (some ⟨bw, 0, none⟩)]) :: (bw, .cells 102 523 (whRow now sl bs bm turn)) :: (D, .obj (.deferred (some []))) :: (b5, .cells 35 1 [v]) :: (b3, .cells 22 1 [.int .u64 (at_ : Int)]) :: (b2, .cells 24 1 [.pointer (some ⟨bw, 0, none⟩)]) :: ((bm, .obj (mapO (Value.int .i64) l c)) :: (XS.flatten ++ H))) rfl rfl ty35 ty3 rfl (by decide) hO (by rw [List.length_map, Nat.mul_one]) (OwnS.holds hOs (fun p hp => (by repeat (first | exact List.mem_append_left _ (hmem p hp) | exact List.mem_cons_self | apply List.mem_cons_of_mem | apply List.mem_append_right)))) (by rw [List.all_eq_true]; intro u hu; obtain ⟨q, _, rfl⟩ := List.mem_map.1 hu; rfl) (by simp only [maxLen]; omega) (by omega) (by repeat (first | with_reducible exact HSub.refl _ | refine HSub.cons (by repeat (first | exact Take.here _ | apply Take.next | apply Take.app)) ?_ | refine HSub.app (by repeat (first | with_reducible exact TakeS.here _ | apply TakeS.next | apply TakeS.app)) ?_ | exact HSub.nil _ | exact HSub.refl _ | refine HSub.drop ?_ | refine HSub.dropS ?_)) rfl (fun v' X' hO' => ?_)
      refine W_nil ?_
      refine Rd.WS_goal ?_
      refine Rd.WS_last (l' := #[true, true, true, true, true, true, true, true, true, true, true, true, true]) (by repeat (first | with_reducible exact HSub.refl _ | refine HSub.cons (by repeat (first | exact Take.here _ | apply Take.next | apply Take.app)) ?_ | refine HSub.app (by repeat (first | with_reducible exact TakeS.here _ | apply TakeS.next | apply TakeS.app)) ?_ | exact HSub.nil _ | exact HSub.refl _ | refine HSub.drop ?_ | refine HSub.dropS ?_)) (by decide +kernel) rfl (by decide +kernel) ?_
      have hv1 : v'.oneCell' = true := by obtain ⟨_, _, rfl, _⟩ := hO'.shape; rfl
      refine W_store (l' := [v']) rfl rfl ty35 hv1 rfl (b := b5) (by repeat (first | exact List.mem_cons_self | apply List.mem_cons_of_mem | apply List.mem_append_right)) rfl rfl (by repeat (first | exact Upd.head _ | apply Upd.tail | apply Upd.app)) ?_
      refine W_nil ?_
      refine Rd.WC_goal ?_
      refine Rd.WC_done (.nil _) (by decide +kernel) ?_
      refine W_blk ?_
      refine W_endround (by repeat (first | exact Take.here _ | apply Take.next | apply Take.app)) ?_
      rw [hr]
      exact ⟨(lp, .obj (.loop r)) :: (D, .obj (.deferred (some []))) :: (b5, .cells 35 1 [v']) :: (b3, .cells 22 1 [.int .u64 (at_ : Int)]) :: (b2, .cells 24 1 [.pointer (some ⟨bw, 0, none⟩)]) :: (X' ++ ((bm, .obj (mapO (Value.int .i64) l c)) :: (XS.flatten ++ H))), (by repeat (first | with_reducible exact HSub.refl _ | refine HSub.cons (by repeat (first | exact Take.here _ | apply Take.next | apply Take.app)) ?_ | refine HSub.app (by repeat (first | with_reducible exact TakeS.here _ | apply TakeS.next | apply TakeS.app)) ?_ | exact HSub.nil _ | exact HSub.refl _ | refine HSub.drop ?_ | refine HSub.dropS ?_)), rfl, v', X', by rw [hstep, if_pos q0, List.length_append, List.map_append]; exact hO', rfl⟩
    · skip
      refine W_skip ?_
      refine W_blk ?_
      refine W_endround (by repeat (first | exact Take.here _ | apply Take.next | apply Take.app)) ?_
      rw [hr]
      exact ⟨(lp, .obj (.loop r)) :: (D, .obj (.deferred (some []))) :: (b5, .cells 35 1 [v]) :: (b3, .cells 22 1 [.int .u64 (at_ : Int)]) :: (b2, .cells 24 1 [.pointer (some ⟨bw, 0, none⟩)]) :: (X ++ ((bm, .obj (mapO (Value.int .i64) l c)) :: (XS.flatten ++ H))), (by repeat (first | with_reducible exact HSub.refl _ | refine HSub.cons (by repeat (first | exact Take.here _ | apply Take.next | apply Take.app)) ?_ | refine HSub.app (by repeat (first | with_reducible exact TakeS.here _ | apply TakeS.next | apply TakeS.app)) ?_ | exact HSub.nil _ | exact HSub.refl _ | refine HSub.drop ?_ | refine HSub.dropS ?_)), rfl, v, X, by rw [hstep, if_neg q0]; exact hO, rfl⟩
  · intro _ H' hp
    obtain ⟨Hi', hs, v, X, hO, rfl⟩ := hp
    obtain ⟨b, cap, rfl, rfl, hcap, hmax⟩ := OwnS.is hO hpos
    obtain ⟨d, hd⟩ : ∃ d, d = (duL now at_ bs L 8) := ⟨_, rfl⟩
    rw [← hd] at hs hcap ⊢
    have hs2 : HSub H' ((b1, .cells 24 1 [.pointer (some ⟨bw, 0, none⟩)]) :: (bw, .cells 102 523 (whRow now sl bs bm turn)) :: (lp, .obj (.loop r)) :: (D, .obj (.deferred (some []))) :: (b5, .cells 35 1 [.slice (some ⟨b, 0, none⟩) d.length cap]) :: (b3, .cells 22 1 [.int .u64 (at_ : Int)]) :: (b2, .cells 24 1 [.pointer (some ⟨bw, 0, none⟩)]) :: (b, .cells 3 (cap * 1) ((d).map (Value.int .i64))) :: (bm, .obj (mapO (Value.int .i64) l c)) :: (XS.flatten ++ H)) := hs
    refine ⟨.ready, none, (b1, .cells 24 1 [.pointer (some ⟨bw, 0, none⟩)]) :: (bw, .cells 102 523 (whRow now sl bs bm turn)) :: (D, .obj (.deferred (some []))) :: (b5, .cells 35 1 [.slice (some ⟨b, 0, none⟩) d.length cap]) :: (b3, .cells 22 1 [.int .u64 (at_ : Int)]) :: (b2, .cells 24 1 [.pointer (some ⟨bw, 0, none⟩)]) :: (b, .cells 3 (cap * 1) ((d).map (Value.int .i64))) :: (bm, .obj (mapO (Value.int .i64) l c)) :: (XS.flatten ++ H), by rw [hr]; exact hs2.trans (by repeat (first | with_reducible exact HSub.refl _ | refine HSub.cons (by repeat (first | exact Take.here _ | apply Take.next | apply Take.app)) ?_ | refine HSub.app (by repeat (first | with_reducible exact TakeS.here _ | apply TakeS.next | apply TakeS.app)) ?_ | exact HSub.nil _ | exact HSub.refl _ | refine HSub.drop ?_ | refine HSub.dropS ?_)), by decide, ?_⟩
    show W _ _ _ _ _ _ _ _ _
    refine W_blk ?_
    refine W_sr ?_
    refine W_load (v := .slice (some ⟨b, 0, none⟩) d.length cap) rfl ty35 rfl (Cell.own (b := b5) (by repeat (first | exact List.mem_cons_self | apply List.mem_cons_of_mem | apply List.mem_append_right)) rfl) rfl ?_
    refine W_makeFunc .nil (.cons rfl .nil) rfl ?_
    refine W_call (.cons rfl (.cons rfl .nil)) Tryd.call75 rfl ((sort_L h (bw := bw) (bm := bm) (b2 := b2) (b := b) (tot := cap * 1) (cap := cap) (d := d) (H := (b1, .cells 24 1 [.pointer (some ⟨bw, 0, none⟩)]) :: (D, .obj (.deferred (some []))) :: (b5, .cells 35 1 [.slice (some ⟨b, 0, none⟩) d.length cap]) :: (b3, .cells 22 1 [.int .u64 (at_ : Int)]) :: (XS.flatten ++ H)) (by rw [hd]; omega)).hsub (by repeat (first | with_reducible exact HSub.refl _ | refine HSub.cons (by repeat (first | exact Take.here _ | apply Take.next | apply Take.app)) ?_ | refine HSub.app (by repeat (first | with_reducible exact TakeS.here _ | apply TakeS.next | apply TakeS.app)) ?_ | exact HSub.nil _ | exact HSub.refl _ | refine HSub.drop ?_ | refine HSub.dropS ?_))) ?_
    rintro v H' ⟨rfl, d', hp, hsrt, rfl⟩
    refine W_nil ?_
    refine W_sr ?_
    refine W_load (v := .slice (some ⟨b, 0, none⟩) d.length cap) rfl ty35 rfl (Cell.own (b := b5) (by repeat (first | exact List.mem_cons_self | apply List.mem_cons_of_mem | apply List.mem_append_right)) rfl) rfl ?_
    refine W_assign rfl rfl ?_
    refine W_nil ?_
    refine W_ret1m (H2 := (b, .cells 3 (cap * 1) ((d').map (Value.int .i64))) :: (bw, .cells 102 523 (whRow now sl bs bm turn)) :: (bm, .obj (mapO (Value.int .i64) l c)) :: (XS.flatten ++ H)) Tryd.results53 rfl (.cons (by repeat (first | exact Take.here _ | apply Take.next | apply Take.app)) (.nil _)) (by repeat (first | with_reducible exact HSub.refl _ | refine HSub.cons (by repeat (first | exact Take.here _ | apply Take.next | apply Take.app)) ?_ | refine HSub.app (by repeat (first | with_reducible exact TakeS.here _ | apply TakeS.next | apply TakeS.app)) ?_ | exact HSub.nil _ | exact HSub.refl _ | refine HSub.drop ?_ | refine HSub.dropS ?_)) ?_
    exact ⟨b, cap, d', by rw [hp.length_eq], by rw [hp.length_eq]; exact hcap, hmax, hp, hsrt, rfl⟩
end Go.Proofs.YtknbohnoiigioaaDoor
namespace Go.Proofs.YtknbohnoiigioaaDoor
open Go Go.Sl
attribute [local irreducible] W
/-- the least tick at which any is due -/
def leastT : List Tm → Option Nat
  | [] => none
  | t :: L => match leastT L with
    | none => some t.s.due
    | some a => some (min t.s.due a)
theorem leastT_none : ∀ {L : List Tm}, leastT L = none ↔ L = []
  | [] => ⟨fun _ => rfl, fun _ => rfl⟩
  | t :: L => by
    unfold leastT
    cases leastT L <;> simp
theorem leastT_is : ∀ {L : List Tm} {a : Nat}, leastT L = some a → (∃ t ∈ L, t.s.due = a) ∧ ∀ t ∈ L, a ≤ t.s.due
  | [], a, h => by cases h
  | t :: L, a, h => by
    unfold leastT at h
    cases hl : leastT L with
    | none =>
      rw [hl] at h
      obtain rfl : t.s.due = a := Option.some.inj h
      obtain rfl := leastT_none.1 hl
      exact ⟨⟨t, List.mem_cons_self, rfl⟩, fun u hu => by rw [List.mem_singleton.1 hu]; exact Nat.le_refl _⟩
    | some b =>
      rw [hl] at h
      obtain rfl : min t.s.due b = a := Option.some.inj h
      obtain ⟨⟨u, hu, e⟩, h2⟩ := leastT_is hl
      refine ⟨?_, fun x hx => ?_⟩
      · by_cases c : t.s.due ≤ b
        · exact ⟨t, List.mem_cons_self, (Nat.min_eq_left c).symm⟩
        · exact ⟨u, List.mem_cons_of_mem _ hu, by omega⟩
      · rcases List.mem_cons.1 hx with rfl | hx
        · omega
        · have := h2 x hx; omega
theorem leastT_of {L : List Tm} {a : Nat} (h1 : ∃ t ∈ L, t.s.due = a) (h2 : ∀ t ∈ L, a ≤ t.s.due) : leastT L = some a := by
  obtain ⟨t, ht, rfl⟩ := h1
  cases hl : leastT L with
  | none => rw [leastT_none.1 hl] at ht; cases ht
  | some b =>
    obtain ⟨⟨u, hu, e⟩, h3⟩ := leastT_is hl
    have := h3 t ht
    have := h2 u hu
    rw [show b = t.s.due by omega]
section
variable {now turn c : Nat} {L : List Tm} {sl : List Value} {XS : List Heap} {bs : List Nat} {l : Ents Int}
theorem WhIs.bsOk (h : WhIs now L sl XS bs l c turn) : ∀ z ∈ bs, z < 18446744073709551616 := fun z hz => by
  obtain ⟨n, hn, e⟩ := List.getElem_of_mem hz
  obtain ⟨z', h1, h2, _⟩ := h.busy n (by rw [h.row.bs] at hn; exact hn)
  rw [List.getElem?_eq_getElem hn, e] at h1
  obtain rfl := Option.some.inj h1
  exact h2
theorem WhIs.nxIs (h : WhIs now L sl XS bs l c turn) (hnow : now ≤ 18446744073709551615) : nx now bs 8 = leastT L := by
  rcases nx_least h hnow 8 (Nat.le_refl _) with ⟨h1, h2⟩ | ⟨a, h1, ⟨t, h2, h3, h4⟩, h5⟩
  · rw [h1]
    cases L with
    | nil => rfl
    | cons t L => have := h2 t List.mem_cons_self; have := (h.spot t List.mem_cons_self).1; omega
  · rw [h1, leastT_of ⟨t, h2, h4⟩ (fun u hu => h5 u hu (h.spot u hu).1)]
end
theorem WheelH.ids {bw now turn : Nat} {L : List Tm} {HW : Heap} (h : WheelH bw now L turn HW) : (L.map (·.id)).Nodup ∧ (∀ t ∈ L, 0 ≤ t.id ∧ t.id < 256) ∧ L.Pairwise (fun a b => a.turn < b.turn) ∧ L.length ≤ 256 := by
  cases h with
  | mk h => exact ⟨h.nodup, h.range, h.turns, h.len⟩
theorem WheelH.later {bw now turn : Nat} {L : List Tm} {HW : Heap} (h : WheelH bw now L turn HW) (hnow : now < 18446744073709551615) : ∀ t ∈ L, now < t.s.due := by
  cases h with
  | mk h =>
    intro t ht
    obtain ⟨num, _, e, h1, _⟩ := h.time t ht
    rw [e]; exact due_later hnow h1
/-- the tick's own cell -/
theorem WheelH.now {bw now turn : Nat} {L : List Tm} {HW : Heap} (h : WheelH bw now L turn HW) : ∃ row HT, HW = (bw, .cells 102 523 row) :: HT ∧ row.length = 523 ∧ row[0]? = some (.int .u64 (now : Int)) ∧
    ∀ n2, now ≤ n2 → (∀ t ∈ L, n2 < t.s.due) → WheelH bw n2 L turn ((bw, .cells 102 523 (row.set 0 (.int .u64 (n2 : Int)))) :: HT) := by
  cases h with
  | mk h => exact ⟨_, _, rfl, wh_len h.row, wh_now, fun n2 h1 h2 => by rw [wh_setNow]; exact .mk (h.later h1 h2)⟩
theorem Next_W {w0 : World} {H HW : Heap} {bw now turn : Nat} {L : List Tm} (hT : Tab w0) (hW : WheelH bw now L turn HW) (hnow : now ≤ 18446744073709551615) :
    LCalls Tryd.prog w0 15 #[.pointer (some ⟨bw, 0, none⟩)] (HW ++ H) (fun v H' => v = .tuple #[.int .u64 (((leastT L).getD 0 : Nat) : Int), .bool (leastT L).isSome] ∧ H' = HW ++ H) := by
  cases hW with
  | @mk bm c sl XS bs l h =>
    have := Next_L (bm := bm) (turn := turn) (H := (bm, .obj (mapO (Value.int .i64) l c)) :: (XS.flatten ++ H)) h.row hnow h.bsOk hT (bw := bw)
    rw [h.nxIs hnow] at this
    exact this
theorem Now_W {w0 : World} {H HW : Heap} {bw now turn : Nat} {L : List Tm} (hW : WheelH bw now L turn HW) : PureAt Tryd.prog w0 (HW ++ H) 19 [.pointer (some ⟨bw, 0, none⟩)] (.int .u64 ((now : Nat) : Int)) := by
  cases hW with
  | @mk bm c sl XS bs l h => exact Now_q (sl := sl) (bs := bs) (bm := bm) (turn := turn) (by repeat (first | exact List.mem_cons_self | apply List.mem_cons_of_mem | apply List.mem_append_right))
theorem Len_W {w0 : World} {H HW : Heap} {bw now turn : Nat} {L : List Tm} (hW : WheelH bw now L turn HW) : PureAt Tryd.prog w0 (HW ++ H) 17 [.pointer (some ⟨bw, 0, none⟩)] (.int .i64 (L.length : Int)) := by
  cases hW with
  | @mk bm c sl XS bs l h =>
    have := Len_q (w0 := w0) (H := ((bw, .cells 102 523 (whRow now sl bs bm turn)) :: (bm, .obj (mapO (Value.int .i64) l c)) :: XS.flatten) ++ H) (now := now) (turn := turn) (c := c) (l := l) h.row (by repeat (first | exact List.mem_cons_self | apply List.mem_cons_of_mem | apply List.mem_append_right)) (by repeat (first | exact List.mem_cons_self | apply List.mem_cons_of_mem | apply List.mem_append_right))
    have e : l.length = L.length := by have := h.keys.length_eq; rwa [List.length_map, List.length_map] at this
    rw [e] at this
    exact this
/-- a timer's spot -/
def spotOf (L : List Tm) (id : Int) : Spot := match L.find? (fun t => decide (t.id = id)) with
  | some t => t.s
  | none => zSpot
theorem spotOf_in {L : List Tm} (h : (L.map (·.id)).Nodup) {t : Tm} (ht : t ∈ L) : spotOf L t.id = t.s := by
  unfold spotOf
  cases hf : L.find? (fun u => decide (u.id = t.id)) with
  | none => exact absurd (decide_eq_true rfl) (List.find?_eq_none.1 hf t ht)
  | some u =>
    have h1 := List.find?_some hf
    obtain rfl : u = t := tm_uniq h (List.mem_of_find?_eq_some hf) ht (of_decide_eq_true h1)
    rfl
theorem spotOf_out {L : List Tm} {id : Int} (h : id ∉ L.map (·.id)) : spotOf L id = zSpot := by
  unfold spotOf
  cases hf : L.find? (fun u => decide (u.id = id)) with
  | none => rfl
  | some u =>
    have h1 := List.find?_some hf
    have h2 : u.id = id := of_decide_eq_true h1
    exact absurd (h2 ▸ List.mem_map_of_mem (List.mem_of_find?_eq_some hf)) h
theorem Find_W {w0 : World} {H HW : Heap} {bw now turn : Nat} {L : List Tm} {id : Int} (hW : WheelH bw now L turn HW) : PureAt Tryd.prog w0 (HW ++ H) 20 [.pointer (some ⟨bw, 0, none⟩), .int .i64 id] (.tuple #[.agg (spotOf L id).v.toArray, .bool (heldB L id)]) := by
  cases hW with
  | @mk bm c sl XS bs l h =>
    by_cases hin : id ∈ L.map (·.id)
    · obtain ⟨t, ht, rfl⟩ := List.mem_map.1 hin
      obtain ⟨hv, hh⟩ := h.hit ht
      rw [spotOf_in h.nodup ht, heldB_iff.2 hin]
      exact Find_q (now := now) (turn := turn) (c := c) (l := l) h.row (by repeat (first | exact List.mem_cons_self | apply List.mem_cons_of_mem | apply List.mem_append_right)) (by repeat (first | exact List.mem_cons_self | apply List.mem_cons_of_mem | apply List.mem_append_right)) hv hh
    · obtain ⟨hv, hh⟩ := h.miss hin
      rw [spotOf_out hin, show heldB L id = false by (cases hb : heldB L id with | false => rfl | true => exact absurd (heldB_iff.1 hb) hin)]
      exact Find_q (tn := 0) (e := zSpot) (now := now) (turn := turn) (c := c) (l := l) h.row (by repeat (first | exact List.mem_cons_self | apply List.mem_cons_of_mem | apply List.mem_append_right)) (by repeat (first | exact List.mem_cons_self | apply List.mem_cons_of_mem | apply List.mem_append_right)) hv hh
theorem due_W {w0 : World} {H HW : Heap} {bw now turn at_ : Nat} {L : List Tm} (hT : Tab w0) (hW : WheelH bw now L turn HW) (hnow : now ≤ 18446744073709551615) (hat : leastT L = some at_) :
    LCalls Tryd.prog w0 53 #[.pointer (some ⟨bw, 0, none⟩), .int .u64 ((at_ : Nat) : Int)] (HW ++ H) (fun v H' => ∃ XB, OwnS 3 1 v ((dueAt L at_).map (·.id)).length (((dueAt L at_).map (·.id)).map (Value.int .i64)) XB ∧ H' = XB ++ (HW ++ H)) := by
  cases hW with
  | @mk bm c sl XS bs l h =>
    obtain ⟨⟨t, ht, e⟩, h2⟩ := leastT_is hat
    have hperm := du_all h hnow h2
    have hpos : 0 < (duL now at_ bs L 8).length := by
      rw [hperm.length_eq]
      exact List.length_pos_of_mem (List.mem_map_of_mem (List.mem_filter.2 ⟨ht, decide_eq_true e⟩))
    refine (due_at (bm := bm) (H := H) h hnow h.bsOk hpos hT).mono ?_
    rintro v H' ⟨b, cap, d', rfl, hcap, hmax, hp, hs, rfl⟩
    obtain ⟨n1, n2⟩ := h.dueAsc at_
    obtain rfl := sorted_is (hp.trans hperm) n1 n2 hs
    exact ⟨_, .own (by rw [List.length_map, Nat.mul_one]) hcap hmax, rfl⟩
end Go.Proofs.YtknbohnoiigioaaDoor
namespace Go.Proofs.YtknbohnoiigioaaDoor
open Go Go.Sl
attribute [local irreducible] W
/-- who is told ahead of whom -/
def ahead (a b : Tm) : Prop := a.s.due < b.s.due ∨ (a.s.due = b.s.due ∧ a.turn < b.turn)
structure ToS where
  nw : Nat
  Li : List Tm
  O : List Tm
  v : Value
  XO : Heap
  HW : Heap
/-- how far a wheel went: who is left, who came out -/
structure Gone (now nw : Nat) (L Li O : List Tm) : Prop where
  le : now ≤ nw
  left : Li = L.filter (fun t => decide (nw < t.s.due))
  perm : O.Perm (L.filter (fun t => decide (t.s.due ≤ nw)))
  asc : O.Pairwise ahead
theorem Gone.start {now : Nat} {L : List Tm} (h : ∀ t ∈ L, now < t.s.due) : Gone now now L L [] where
  le := Nat.le_refl _
  left := (List.filter_eq_self.2 fun t ht => decide_eq_true (h t ht)).symm
  perm := by
    rw [List.filter_eq_nil_iff.2 (fun t ht => by have := h t ht; simp; omega)]
  asc := .nil
theorem Gone.len {now nw : Nat} {L Li O : List Tm} (h : Gone now nw L Li O) : O.length ≤ L.length := by
  rw [h.perm.length_eq]; exact List.length_filter_le _ _
/-- to a later tick with nobody due on the way -/
theorem Gone.wait {now nw n2 : Nat} {L Li O : List Tm} (h : Gone now nw L Li O) (hn : nw ≤ n2) (hl : ∀ t ∈ Li, n2 < t.s.due) : Gone now n2 L Li O := by
  have hd : ∀ t ∈ L, nw < t.s.due → n2 < t.s.due := fun t ht h1 => hl t (by rw [h.left]; exact List.mem_filter.2 ⟨ht, decide_eq_true h1⟩)
  refine ⟨Nat.le_trans h.le hn, ?_, ?_, h.asc⟩
  · rw [h.left]
    exact List.filter_congr fun t ht => decide_eq_decide.2 ⟨hd t ht, fun h1 => by omega⟩
  · refine h.perm.trans ?_
    rw [List.filter_congr fun t ht => (decide_eq_decide.2 ⟨fun h1 => by omega, fun h1 => by
      by_cases c : nw < t.s.due
      · have := hd t ht c; omega
      · omega⟩ : decide (t.s.due ≤ nw) = decide (t.s.due ≤ n2))]
theorem dueAt_pairwise {Li : List Tm} {at_ : Nat} (h : Li.Pairwise (fun a b => a.turn < b.turn)) : (dueAt Li at_).Pairwise ahead := by
  have h1 : (dueAt Li at_).Pairwise (fun a b => a.turn < b.turn) := h.sublist List.filter_sublist
  refine List.Pairwise.imp_of_mem ?_ h1
  intro a b ha hb hab
  exact .inr ⟨by rw [of_decide_eq_true (List.mem_filter.1 ha).2, of_decide_eq_true (List.mem_filter.1 hb).2], hab⟩
/-- to the next tick at which any is due -/
theorem Gone.step {now nw at_ : Nat} {L Li O : List Tm} (h : Gone now nw L Li O) (hat : leastT Li = some at_) (hturn : Li.Pairwise (fun a b => a.turn < b.turn)) :
    Gone now at_ L (Li.filter (fun t => decide (t.s.due ≠ at_))) (O ++ dueAt Li at_) := by
  obtain ⟨⟨t0, ht0, e0⟩, hl⟩ := leastT_is hat
  have hnw : nw < at_ := by
    rw [h.left] at ht0
    have := of_decide_eq_true (List.mem_filter.1 ht0).2
    omega
  have hd : ∀ t ∈ L, nw < t.s.due → at_ ≤ t.s.due := fun t ht h1 => hl t (by rw [h.left]; exact List.mem_filter.2 ⟨ht, decide_eq_true h1⟩)
  refine ⟨Nat.le_trans h.le (Nat.le_of_lt hnw), ?_, ?_, ?_⟩
  · rw [h.left, List.filter_filter]
    refine List.filter_congr fun t ht => ?_
    rw [← Bool.decide_and]
    refine decide_eq_decide.2 ⟨fun ⟨h1, h2⟩ => ?_, fun h1 => ⟨by omega, by omega⟩⟩
    have := hd t ht h2; omega
  · refine (h.perm.append_right _).trans ?_
    have e : dueAt Li at_ = L.filter (fun t => decide (t.s.due = at_)) := by
      unfold dueAt
      rw [h.left, List.filter_filter]
      refine List.filter_congr fun t ht => ?_
      rw [← Bool.decide_and]
      exact decide_eq_decide.2 ⟨fun h1 => h1.1, fun h1 => ⟨h1, by omega⟩⟩
    rw [e]
    refine filter_or L fun t ht => ⟨?_, ?_⟩
    · simp only [decide_eq_true_eq]
      refine ⟨fun h1 => ?_, fun h1 => by omega⟩
      by_cases c : nw < t.s.due
      · have := hd t ht c; omega
      · omega
    · simp only [decide_eq_true_eq]; omega
  · rw [List.pairwise_append]
    refine ⟨h.asc, dueAt_pairwise hturn, fun a ha b hb => .inl ?_⟩
    have h1 := of_decide_eq_true (List.mem_filter.1 (h.perm.mem_iff.1 ha)).2
    have h2 := of_decide_eq_true (List.mem_filter.1 hb).2
    omega
theorem delsT_is (L : List Tm) : ∀ (l : List Int) (n : Nat), (l.foldl (fun (s : List Tm × Nat) id => (delT s.1 id, s.2 + if heldB s.1 id = true then 1 else 0)) (L, n)).1 = L.filter (fun t => decide (t.id ∉ l)) := by
  intro l
  induction l generalizing L with
  | nil => intro n; exact (List.filter_eq_self.2 fun t _ => by simp).symm
  | cons x l ih =>
    intro n
    rw [List.foldl_cons, ih]
    unfold delT
    rw [List.filter_filter]
    refine List.filter_congr fun t _ => ?_
    rw [← Bool.decide_and]
    exact decide_eq_decide.2 ⟨fun h h2 => (List.mem_cons.1 h2).elim h.2 h.1, fun h => ⟨fun h2 => h (List.mem_cons_of_mem _ h2), fun h2 => h (h2 ▸ List.mem_cons_self)⟩⟩
theorem dels_due {L : List Tm} {at_ : Nat} (hn : (L.map (·.id)).Nodup) : (delsT L ((dueAt L at_).map (·.id))).1 = L.filter (fun t => decide (t.s.due ≠ at_)) := by
  unfold delsT
  rw [delsT_is]
  refine List.filter_congr fun t ht => decide_eq_decide.2 ⟨fun h e => h (List.mem_map_of_mem (List.mem_filter.2 ⟨ht, decide_eq_true e⟩)), fun h e => ?_⟩
  obtain ⟨u, hu, e2⟩ := List.mem_map.1 e
  obtain rfl := tm_uniq hn (List.mem_filter.1 hu).1 ht e2
  exact h (of_decide_eq_true (List.mem_filter.1 hu).2)
theorem filter_lt {L : List Tm} {at_ : Nat} (h : leastT L = some at_) : (L.filter (fun t => decide (t.s.due ≠ at_))).length < L.length := by
  obtain ⟨⟨t, ht, e⟩, _⟩ := leastT_is h
  refine List.length_filter_lt_length_iff_exists.2 ⟨t, ht, ?_⟩
  simp [e]
theorem To_nil {w0 : World} {H : Heap} : True := trivial
set_option maxHeartbeats 1000000 in
theorem To_stay {w0 : World} {H : Heap} {bw now a : Nat} {row : List Value} {tot : Nat} (hw : (bw, .cells 102 tot row) ∈ H) (hr : row[0]? = some (.int .u64 (now : Int))) (hle : a ≤ now)  : PureAt Tryd.prog w0 H 18 [.pointer (some ⟨bw, 0, none⟩), .int .u64 ((a : Nat) : Int)] (.slice none 0 0) := by
  refine L_enter Tryd.func18 rfl Tryd.ntmps18 rfl rfl ?_
  refine W_sr ?_
  refine W_assign rfl rfl ?_
  refine W_nil ?_
  refine W_scope (fun _ _ _ h => h) ?_
  refine W_seq ?_
  refine W_sr ?_
  refine W_move rfl rfl ?_
  refine W_x (X_ptrNil rfl rfl ty24) (fun _ h => by cases h) rfl ?_
  refine W_move rfl rfl ?_
  refine W_gyes rfl rfl ?_
  refine W_move rfl rfl ?_
  refine W_gyes rfl rfl ?_
  refine W_move rfl rfl ?_
  refine W_gyes rfl rfl ?_
  refine W_nilCheck rfl rfl ?_
  refine W_gyes rfl rfl ?_
  refine W_fieldAddr rfl fld102_0 (by decide) rfl ?_
  refine W_gyes rfl rfl ?_
  refine W_load (v := .int .u64 (now : Int)) rfl ty22 rfl (Cell.own hw hr) rfl ?_
  refine W_gyes rfl rfl ?_
  refine W_bin rfl rfl b_leq rfl ?_
  first | refine W_pickt rfl rfl rfl ?_ | refine W_pickf rfl rfl rfl ?_
  refine W_nil ?_
  refine W_condT rfl (decide_eq_true (by omega)) ?_
  refine W_sr ?_
  refine W_assign rfl rfl ?_
  refine W_nil ?_
  refine W_ret1m (H2 := H) Tryd.results18 rfl (.nil _) (by repeat (first | with_reducible exact HSub.refl _ | refine HSub.cons (by repeat (first | exact Take.here _ | apply Take.next | apply Take.app)) ?_ | refine HSub.app (by repeat (first | with_reducible exact TakeS.here _ | apply TakeS.next | apply TakeS.app)) ?_ | exact HSub.nil _ | exact HSub.refl _ | refine HSub.drop ?_ | refine HSub.dropS ?_)) ?_
  exact ⟨rfl, rfl⟩
set_option maxHeartbeats 1000000 in
theorem To_nilp {z : Int} : Pure Tryd.prog (fun _ => True) 18 [.pointer none, .int .u64 z] (.slice none 0 0) := by
  intro w0 H hT
  refine L_enter Tryd.func18 rfl Tryd.ntmps18 rfl rfl ?_
  refine W_sr ?_
  refine W_assign rfl rfl ?_
  refine W_nil ?_
  refine W_scope (fun _ _ _ h => h) ?_
  refine W_seq ?_
  refine W_sr ?_
  refine W_move rfl rfl ?_
  refine W_x (X_ptrNil rfl rfl ty24) (fun _ h => by cases h) rfl ?_
  refine W_move rfl rfl ?_
  refine W_gno rfl rfl rfl ?_
  refine W_gno rfl rfl rfl ?_
  refine W_gno rfl rfl rfl ?_
  refine W_gno rfl rfl rfl ?_
  refine W_gno rfl rfl rfl ?_
  refine W_gno rfl rfl rfl ?_
  first | refine W_pickt rfl rfl rfl ?_ | refine W_pickf rfl rfl rfl ?_
  refine W_nil ?_
  refine W_condT rfl rfl ?_
  refine W_sr ?_
  refine W_assign rfl rfl ?_
  refine W_nil ?_
  refine W_ret1m (H2 := H) Tryd.results18 rfl (.nil _) (by repeat (first | with_reducible exact HSub.refl _ | refine HSub.cons (by repeat (first | exact Take.here _ | apply Take.next | apply Take.app)) ?_ | refine HSub.app (by repeat (first | with_reducible exact TakeS.here _ | apply TakeS.next | apply TakeS.app)) ?_ | exact HSub.nil _ | exact HSub.refl _ | refine HSub.drop ?_ | refine HSub.dropS ?_)) ?_
  exact ⟨rfl, rfl⟩
set_option maxHeartbeats 4000000 in
theorem To_L {w0 : World} {H : Heap} {HW : Heap} {bw now turn a : Nat} {L : List Tm} (hW : WheelH bw now L turn HW) (hlt : now < a) (ha : a ≤ 18446744073709551615) (hT : Tab w0) : LCalls Tryd.prog w0 18 #[.pointer (some ⟨bw, 0, none⟩), .int .u64 ((a : Nat) : Int)] (HW ++ H) (fun v H' => ∃ O Li HW' XO, WheelH bw a Li turn HW' ∧ Gone now a L Li O ∧ OwnS 3 1 v O.length ((O.map (·.id)).map (Value.int .i64)) XO ∧ H' = XO ++ (HW' ++ H)) := by
  obtain ⟨row0, HT0, rfl, hrl0, hr0, _⟩ := hW.now
  refine L_enter (l := [.pointer (some ⟨bw, 0, none⟩), .int .u64 ((a : Nat) : Int)]) Tryd.func18 rfl Tryd.ntmps18 rfl rfl ?_
  refine W_sr ?_
  refine W_assign rfl rfl ?_
  refine W_nil ?_
  refine W_scope (fun _ _ _ h => h) ?_
  refine W_seq ?_
  refine W_sr ?_
  refine W_move rfl rfl ?_
  refine W_x (X_ptrNil rfl rfl ty24) (fun _ h => by cases h) rfl ?_
  refine W_move rfl rfl ?_
  refine W_gyes rfl rfl ?_
  refine W_move rfl rfl ?_
  refine W_gyes rfl rfl ?_
  refine W_move rfl rfl ?_
  refine W_gyes rfl rfl ?_
  refine W_nilCheck rfl rfl ?_
  refine W_gyes rfl rfl ?_
  refine W_fieldAddr rfl fld102_0 (by decide) rfl ?_
  refine W_gyes rfl rfl ?_
  refine W_load (v := .int .u64 (now : Int)) rfl ty22 rfl (Cell.own (b := bw) (by repeat (first | exact List.mem_cons_self | apply List.mem_cons_of_mem | apply List.mem_append_right)) hr0) rfl ?_
  refine W_gyes rfl rfl ?_
  refine W_bin rfl rfl b_leq rfl ?_
  first | refine W_pickt rfl rfl rfl ?_ | refine W_pickf rfl rfl rfl ?_
  refine W_nil ?_
  refine W_condF rfl (decide_eq_false (by omega)) ?_
  refine W_skip ?_
  refine W_sr ?_
  refine W_assign rfl rfl ?_
  refine W_nil ?_
  refine W_seq ?_
  refine W_label ?_
  refine W_seq ?_
  refine W_block ?_
  refine W_loopC (X := ToS) [(0, _), (1, _)] (fun (x : ToS) => [(5, x.v)]) (fun _ => _) (fun (x : ToS) => x.XO ++ (x.HW ++ H)) (fun (x : ToS) => (WheelH bw x.nw x.Li turn x.HW ∧ Gone now x.nw L x.Li x.O) ∧ x.nw ≤ a ∧ OwnS 3 1 x.v x.O.length ((x.O.map (·.id)).map (Value.int .i64)) x.XO) (fun (x : ToS) => x.Li.length) ⟨now, L, [], .slice none 0 0, [], (bw, .cells 102 523 row0) :: HT0⟩ ⟨⟨hW, Gone.start (hW.later (by omega))⟩, by show now ≤ a; omega, OwnS.nil⟩ (sub_cons rfl (sub_cons rfl (sub_nil _))) (sub_cons rfl (sub_nil _)) rfl (.refl _) ?_
  rintro ⟨nw, Li, O, v, XO, HWi⟩ ⟨hI, hna, hO⟩
  dsimp only at hI hna hO ⊢
  have hOl := hI.2.len
  have hLl : L.length ≤ 256 := hW.ids.2.2.2
  
  simp only [List.cons_append, List.nil_append]
  refine W_block ?_
  refine W_sr ?_
  refine W_move rfl rfl ?_
  obtain ⟨hW0, hG⟩ := hI
  have hids := hW0.ids
  have hnw : nw ≤ 18446744073709551615 := by omega
  refine W_call (.cons rfl .nil) Tryd.call15 rfl ((Next_W hT hW0 hnw (H := XO ++ H)).hsub (by repeat (first | with_reducible exact HSub.refl _ | refine HSub.cons (by repeat (first | exact Take.here _ | apply Take.next | apply Take.app)) ?_ | refine HSub.app (by repeat (first | with_reducible exact TakeS.here _ | apply TakeS.next | apply TakeS.app)) ?_ | exact HSub.nil _ | exact HSub.refl _ | refine HSub.drop ?_ | refine HSub.dropS ?_))) ?_
  rintro v' H' ⟨rfl, rfl⟩
  rcases hat : leastT Li with _ | at_
  · skip
    refine W_move rfl rfl ?_
    refine W_extract rfl rfl rfl ?_
    refine W_extract rfl rfl rfl ?_
    refine W_assign rfl rfl ?_
    refine W_assign rfl rfl ?_
    refine W_nil ?_
    refine W_seq ?_
    refine W_sr ?_
    refine W_move rfl rfl ?_
    refine W_not rfl rfl ?_
    refine W_move rfl rfl ?_
    refine W_gno rfl rfl rfl ?_
    refine W_gno rfl rfl rfl ?_
    refine W_gno rfl rfl rfl ?_
    first | refine W_pickt rfl rfl rfl ?_ | refine W_pickf rfl rfl rfl ?_
    refine W_nil ?_
    refine W_condT rfl rfl ?_
    refine W_exit rfl ?_
    refine W_sr ?_
    have hfin : ∀ t ∈ Li, a < t.s.due := by rw [leastT_none.1 hat]; intro t ht; cases ht
    obtain ⟨row, HT, rfl, hrl, hr0, hlat⟩ := hW0.now
    have hW2 := hlat a hna hfin
    have hG2 := hG.wait hna hfin
    refine W_hsub (H' := XO ++ ((bw, .cells 102 523 row) :: (HT ++ H))) (show HSub (((bw, .cells 102 523 row) :: HT) ++ (XO ++ H)) _ from (show HSub ((bw, .cells 102 523 row) :: (HT ++ (XO ++ H))) _ from (by repeat (first | with_reducible exact HSub.refl _ | refine HSub.cons (by repeat (first | exact Take.here _ | apply Take.next | apply Take.app)) ?_ | refine HSub.app (by repeat (first | with_reducible exact TakeS.here _ | apply TakeS.next | apply TakeS.app)) ?_ | exact HSub.nil _ | exact HSub.refl _ | refine HSub.drop ?_ | refine HSub.dropS ?_)))) ?_
    refine W_move rfl rfl ?_
    refine W_move rfl rfl ?_
    refine W_nilCheck rfl rfl ?_
    refine W_fieldAddr rfl fld102_0 (by decide) rfl ?_
    refine W_store (l' := (row.set 0 (.int .u64 (a : Int)))) rfl rfl ty22 rfl rfl (b := bw) (by repeat (first | exact List.mem_cons_self | apply List.mem_cons_of_mem | apply List.mem_append_right)) (by rw [hrl]; rfl) rfl (by repeat (first | exact Upd.head _ | apply Upd.tail | apply Upd.app)) ?_
    refine W_nil ?_
    refine W_sr ?_
    refine W_move rfl rfl ?_
    refine W_assign rfl rfl ?_
    refine W_nil ?_
    refine W_ret1m (H2 := XO ++ ((bw, .cells 102 523 (row.set 0 (.int .u64 (a : Int)))) :: (HT ++ H))) Tryd.results18 rfl (.nil _) (by repeat (first | with_reducible exact HSub.refl _ | refine HSub.cons (by repeat (first | exact Take.here _ | apply Take.next | apply Take.app)) ?_ | refine HSub.app (by repeat (first | with_reducible exact TakeS.here _ | apply TakeS.next | apply TakeS.app)) ?_ | exact HSub.nil _ | exact HSub.refl _ | refine HSub.drop ?_ | refine HSub.dropS ?_)) ?_
    exact ⟨O, Li, _, XO, hW2, hG2, hO, rfl⟩
  · skip
    refine W_move rfl rfl ?_
    refine W_extract rfl rfl rfl ?_
    refine W_extract rfl rfl rfl ?_
    refine W_assign rfl rfl ?_
    refine W_assign rfl rfl ?_
    refine W_nil ?_
    refine W_seq ?_
    refine W_sr ?_
    refine W_move rfl rfl ?_
    refine W_not rfl rfl ?_
    refine W_move rfl rfl ?_
    refine W_gyes rfl rfl ?_
    refine W_move rfl rfl ?_
    refine W_gyes rfl rfl ?_
    refine W_move rfl rfl ?_
    refine W_gyes rfl rfl ?_
    refine W_bin rfl rfl b_gtr rfl ?_
    first | refine W_pickt rfl rfl rfl ?_ | refine W_pickf rfl rfl rfl ?_
    refine W_nil ?_
    refine W_condPS (p := a < at_) rfl (by simp) (fun q0 => ?_) (fun q0 => ?_)
    · skip
      refine W_exit rfl ?_
      refine W_sr ?_
      have hfin : ∀ t ∈ Li, a < t.s.due := fun t ht => by have := (leastT_is hat).2 t ht; omega
      obtain ⟨row, HT, rfl, hrl, hr0, hlat⟩ := hW0.now
      have hW2 := hlat a hna hfin
      have hG2 := hG.wait hna hfin
      refine W_hsub (H' := XO ++ ((bw, .cells 102 523 row) :: (HT ++ H))) (show HSub (((bw, .cells 102 523 row) :: HT) ++ (XO ++ H)) _ from (show HSub ((bw, .cells 102 523 row) :: (HT ++ (XO ++ H))) _ from (by repeat (first | with_reducible exact HSub.refl _ | refine HSub.cons (by repeat (first | exact Take.here _ | apply Take.next | apply Take.app)) ?_ | refine HSub.app (by repeat (first | with_reducible exact TakeS.here _ | apply TakeS.next | apply TakeS.app)) ?_ | exact HSub.nil _ | exact HSub.refl _ | refine HSub.drop ?_ | refine HSub.dropS ?_)))) ?_
      refine W_move rfl rfl ?_
      refine W_move rfl rfl ?_
      refine W_nilCheck rfl rfl ?_
      refine W_fieldAddr rfl fld102_0 (by decide) rfl ?_
      refine W_store (l' := (row.set 0 (.int .u64 (a : Int)))) rfl rfl ty22 rfl rfl (b := bw) (by repeat (first | exact List.mem_cons_self | apply List.mem_cons_of_mem | apply List.mem_append_right)) (by rw [hrl]; rfl) rfl (by repeat (first | exact Upd.head _ | apply Upd.tail | apply Upd.app)) ?_
      refine W_nil ?_
      refine W_sr ?_
      refine W_move rfl rfl ?_
      refine W_assign rfl rfl ?_
      refine W_nil ?_
      refine W_ret1m (H2 := XO ++ ((bw, .cells 102 523 (row.set 0 (.int .u64 (a : Int)))) :: (HT ++ H))) Tryd.results18 rfl (.nil _) (by repeat (first | with_reducible exact HSub.refl _ | refine HSub.cons (by repeat (first | exact Take.here _ | apply Take.next | apply Take.app)) ?_ | refine HSub.app (by repeat (first | with_reducible exact TakeS.here _ | apply TakeS.next | apply TakeS.app)) ?_ | exact HSub.nil _ | exact HSub.refl _ | refine HSub.drop ?_ | refine HSub.dropS ?_)) ?_
      exact ⟨O, Li, _, XO, hW2, hG2, hO, rfl⟩
    · skip
      refine W_skip ?_
      refine W_sr ?_
      refine W_move rfl rfl ?_
      refine W_move rfl rfl ?_
      refine W_call (.cons rfl (.cons rfl .nil)) Tryd.call53 rfl (due_W hT hW0 hnw hat) ?_
      rintro vd H' ⟨XB, hB, rfl⟩
      obtain ⟨ads, caps, rfl, _, _⟩ := hB.shape
      have hdl : (dueAt Li at_).length ≤ Li.length := List.length_filter_le _ _
      refine W_assign rfl rfl ?_
      refine W_nil ?_
      refine W_sr ?_
      refine W_move rfl rfl ?_
      refine W_move rfl rfl ?_
      have hrow : Holds w0 (XB ++ (XO ++ H)) ads (((dueAt Li at_).map (·.id)).map (Value.int .i64)) := OwnS.holds hB (fun p hp => List.mem_append_left _ hp)
      have hdn : ((dueAt Li at_).map (·.id)).length ≤ 4611686018427387904 := by rw [List.length_map]; omega
      have hDL := Del_L (cap := caps) hW0 hdn hrow
      have hDL2 := hDL.hsub (show HSub (XB ++ (HWi ++ (XO ++ H))) _ from (by repeat (first | with_reducible exact HSub.refl _ | refine HSub.cons (by repeat (first | exact Take.here _ | apply Take.next | apply Take.app)) ?_ | refine HSub.app (by repeat (first | with_reducible exact TakeS.here _ | apply TakeS.next | apply TakeS.app)) ?_ | exact HSub.nil _ | exact HSub.refl _ | refine HSub.drop ?_ | refine HSub.dropS ?_)))
      refine W_call (.cons rfl (.cons rfl .nil)) Tryd.call46 rfl hDL2 ?_
      rintro v' H' ⟨HW1, hW1, rfl, rfl⟩
      rw [dels_due hids.1] at hW1
      obtain ⟨row, HT, rfl, hrl, hr0, hlat⟩ := hW1.now
      have hG2 := hG.step hat hids.2.2.1
      have hnat : nw ≤ at_ := by
        obtain ⟨⟨t0, ht0, e0⟩, _⟩ := leastT_is hat
        rw [hG.left] at ht0
        have := of_decide_eq_true (List.mem_filter.1 ht0).2
        omega
      have hat2 : ∀ t ∈ Li.filter (fun t => decide (t.s.due ≠ at_)), at_ < t.s.due := fun t ht => by
        rw [hG2.left] at ht
        exact of_decide_eq_true (List.mem_filter.1 ht).2
      have hW2 := hlat at_ hnat hat2
      refine W_hsub (H' := (bw, .cells 102 523 row) :: (HT ++ (XB ++ (XO ++ H)))) (.refl _) ?_
      refine W_nil ?_
      refine W_sr ?_
      refine W_move rfl rfl ?_
      refine W_move rfl rfl ?_
      refine W_nilCheck rfl rfl ?_
      refine W_fieldAddr rfl fld102_0 (by decide) rfl ?_
      refine W_store (l' := (row.set 0 (.int .u64 (at_ : Int)))) rfl rfl ty22 rfl rfl (b := bw) (by repeat (first | exact List.mem_cons_self | apply List.mem_cons_of_mem | apply List.mem_append_right)) (by rw [hrl]; rfl) rfl (by repeat (first | exact Upd.head _ | apply Upd.tail | apply Upd.app)) ?_
      refine W_nil ?_
      refine W_region ?_
      refine W_move rfl rfl ?_
      refine W_move rfl rfl ?_
      refine W_append (news := ((dueAt Li at_).map (·.id)).map (Value.int .i64)) (m := ((dueAt Li at_).map (·.id)).length) (HB := XO) (H0 := (bw, .cells 102 523 (row.set 0 (.int .u64 (at_ : Int)))) :: (HT ++ (XB ++ H))) rfl rfl ty35 ty3 rfl (by decide) hO (by rw [List.length_map, Nat.mul_one]) (OwnS.holds hB (fun p hp => List.mem_cons_of_mem _ (List.mem_append_right _ (List.mem_append_left _ hp)))) (by rw [List.all_eq_true]; intro u hu; obtain ⟨q, _, rfl⟩ := List.mem_map.1 hu; rfl) (by rw [List.length_map]; simp only [maxLen]; omega) (by rw [List.length_map]; omega) (by repeat (first | with_reducible exact HSub.refl _ | refine HSub.cons (by repeat (first | exact Take.here _ | apply Take.next | apply Take.app)) ?_ | refine HSub.app (by repeat (first | with_reducible exact TakeS.here _ | apply TakeS.next | apply TakeS.app)) ?_ | exact HSub.nil _ | exact HSub.refl _ | refine HSub.drop ?_ | refine HSub.dropS ?_)) rfl (fun v' X' hO' => ?_)
      refine W_assign rfl rfl ?_
      refine W_nil ?_
      refine W_blk ?_
      refine W_again ⟨at_, Li.filter (fun t => decide (t.s.due ≠ at_)), O ++ dueAt Li at_, v', X', (bw, .cells 102 523 (row.set 0 (.int .u64 (at_ : Int)))) :: HT⟩ ⟨⟨hW2, hG2⟩, by show at_ ≤ a; omega, by show OwnS 3 1 v' (O ++ dueAt Li at_).length (((O ++ dueAt Li at_).map (·.id)).map (Value.int .i64)) X'; rw [List.map_append, List.map_append, List.length_append]; rw [List.length_map] at hO'; exact hO'⟩ (filter_lt hat) (sub_cons rfl (sub_cons rfl (sub_cons rfl (sub_nil _)))) rfl (show HSub _ (X' ++ ((bw, .cells 102 523 (row.set 0 (.int .u64 (at_ : Int)))) :: (HT ++ H))) from (by repeat (first | with_reducible exact HSub.refl _ | refine HSub.cons (by repeat (first | exact Take.here _ | apply Take.next | apply Take.app)) ?_ | refine HSub.app (by repeat (first | with_reducible exact TakeS.here _ | apply TakeS.next | apply TakeS.app)) ?_ | exact HSub.nil _ | exact HSub.refl _ | refine HSub.drop ?_ | refine HSub.dropS ?_)))
end Go.Proofs.YtknbohnoiigioaaDoor
