/-
  Own work: contracts of functions that the statement reaches, and plain facts on what they compute; each theorem says its conditions.
-/
import Derived.Test.YtcmfldfeakmdoaaGreatDoorTpT3
import Derived.Test.YtcmfldfeakmdoaaGreatDoorTpS2
import Derived.Test.YtcmfldfeakmdoaaGreatDoorTpT2
import Derived.Test.YtcmfldfeakmdoaaGreatDoorShelf
import Derived.Test.YtcmfldfeakmdoaaGreatDoorTpA
set_option linter.all false
set_option linter.unusedSimpArgs false
set_option linter.unusedVariables false
set_option maxHeartbeats 16000000
namespace Go.Proofs.YtcmfldfeakmdoaaGreatDoor
open Go Go.Sl
attribute [local irreducible] W
set_option maxRecDepth 100000
abbrev rn0 : List Int := List.replicate 256 0
abbrev of0 : List Int := List.replicate 32 0
theorem runs0 : RunsIs rn0 of0 [] := by
 refine ⟨List.length_replicate, List.length_replicate, fun x hx => ?_, fun x hx => ?_, fun i c => ?_, fun i c => ?_, fun p hp => (by cases hp), List.nodup_nil⟩
 ·rw [List.eq_of_mem_replicate hx]; decide
 ·rw [List.eq_of_mem_replicate hx]; decide
 ·refine ⟨fun h => ?_, fun h => by cases h⟩
  have := List.eq_of_mem_replicate (List.mem_of_getElem? h); omega
 ·refine ⟨fun h => ?_, fun h => by cases h⟩
  have := List.eq_of_mem_replicate (List.mem_of_getElem? h); omega
theorem quok0 (n : Nat) : QOk n [] := ⟨List.nodup_nil, fun p hp => by cases hp⟩
structure NpS where
 i : Nat
 v : Value
 XQ : Heap
 XS : List Heap
 rbs : List Nat
theorem rings_snoc {XS : List Heap} {rbs : List Nat} {rb : Nat} {X : Heap} (hl : XS.length = rbs.length) (h : ∀ (k : Nat) r Y, rbs[k]? = some r → XS[k]? = some Y → RingH 256 r [] Y) (hx : RingH 256 rb [] X) : ∀ (k : Nat) r Y, (rbs ++ [rb])[k]? = some r → (XS ++ [X])[k]? = some Y → RingH 256 r [] Y := fun k r Y h1 h2 => by
 by_cases c : k < rbs.length
 ·rw [List.getElem?_append_left c] at h1
  rw [List.getElem?_append_left (by omega)] at h2
  exact h k r Y h1 h2
 ·rw [List.getElem?_append_right (by omega)] at h1 h2
  rw [hl] at h2
  cases hk : k - rbs.length with
  | zero =>
   rw [hk] at h1 h2
   obtain rfl : rb = r := by simpa using h1
   obtain rfl : X = Y := by simpa using h2
   exact hx
  | succ j => rw [hk] at h1; simp at h1
theorem pNew_L {w0 : World} {H : Heap} {n : Nat} (hn : 1 ≤ n ∧ n ≤ 64)  : LCalls Tryz.prog w0 33 #[.int .i64 (n : Int)] (H) (fun v H' => ∃ pb HB, v = .tuple #[.pointer (some ⟨pb, 0, none⟩), .int .i64 0] ∧ PendH pb n [] [] HB ∧ H' = HB ++ H) := by
 refine L_enter (l := [.int .i64 (n : Int)]) Tryz.func33 rfl Tryz.ntmps33 rfl rfl ?_
 refine W_sr ?_
 refine W_assign rfl rfl ?_
 refine W_assign rfl rfl ?_
 refine W_nil (W_seq (W_sr ?_))
 refine W_move rfl rfl ?_
 refine W_bin rfl rfl b_lss rfl ?_
 rw [decide_eq_false (by omega)]
 refine W_move rfl rfl ?_
 refine W_gyes rfl rfl ?_
 refine W_move rfl rfl ?_
 refine W_gyes rfl rfl ?_
 refine W_bin rfl rfl b_gtr rfl ?_
 rw [decide_eq_false (by omega)]
 first | refine W_pickt rfl rfl rfl ?_ | refine W_pickf rfl rfl rfl ?_
 refine W_nil ?_
 refine W_condF rfl rfl ?_
 refine W_skip (W_sr ?_)
 refine W_build (l := (peRow (.slice none 0 0) rn0 of0)) ty126 pl126 .nil rfl zk rfl ?_
 refine W_box (l := (peRow (.slice none 0 0) rn0 of0)) rfl rfl rfl (fun b14 => ?_)
 refine W_assign rfl rfl ?_
 refine W_nil (W_seq (W_sr ?_))
 refine W_move rfl rfl ?_
 refine W_move rfl rfl ?_
 refine W_nil (W_block ?_)
 refine W_loopC (X := NpS) [(4, _), (15, _)] (fun (x : NpS) => [(16, .int .i64 (x.i : Int))]) (fun _ => _) (fun (x : NpS) => (b14, .cells 126 289 (peRow x.v rn0 of0)) :: (x.XQ ++ (x.XS.flatten ++ H))) (fun (x : NpS) => x.i ≤ n ∧ x.rbs.length = x.i ∧ OwnS 127 1 x.v x.rbs.length (x.rbs.map rbP) x.XQ ∧ x.XS.length = x.rbs.length ∧ (∀ (k : Nat) r Y, x.rbs[k]? = some r → x.XS[k]? = some Y → RingH 256 r [] Y)) (fun (x : NpS) => n - x.i) ⟨0, .slice none 0 0, [], [], []⟩ ⟨Nat.zero_le _, rfl, .nil, rfl, fun k r Y h => (by cases h)⟩ (sub_cons rfl (sub_cons rfl (sub_nil _))) (sub_cons rfl (sub_nil _)) rfl (.refl _) ?_
 rintro ⟨i, v, XQ, XS, rbs⟩ ⟨hi, hlen, hv, hl, hw⟩
 dsimp only at hi hlen hv hl hw ⊢
 simp only [List.cons_append, List.nil_append]
 refine W_sr ?_
 refine W_bin rfl rfl b_lss rfl ?_
 refine W_nil (W_seq ?_)
 refine W_condPS (p := (i : Int) < (n : Int)) rfl (by simp) (fun q0 => ?_) (fun q0 => ?_)
 ·skip
  refine W_skip (W_seq ?_)
  refine W_block (W_sr ?_)
  refine W_call (.cons rfl .nil) Tryz.call72 rfl (rNew_L (R := 256) zd zd) ?_
  rintro w2 H' ⟨rb, HX, rfl, hX, rfl⟩
  refine W_move rfl rfl ?_
  refine W_extract rfl rfl rfl ?_
  refine W_extract rfl rfl rfl ?_
  refine W_assign rfl rfl ?_
  refine W_assign rfl rfl ?_
  refine W_nil (W_seq (W_sr ?_))
  refine W_move rfl rfl ?_
  refine W_bin rfl rfl b_neq rfl ?_
  refine W_nil ?_
  refine W_condF rfl rfl ?_
  refine W_skip ?_
  refine W_region ?_
  refine W_move rfl rfl ?_
  refine W_move rfl rfl ?_
  refine W_nilCheck rfl rfl ?_
  refine W_fieldAddr rfl fld126_0 zd rfl ?_
  refine W_load (v := v) rfl ty122 rfl (Cell.own (b := b14) zM rfl) rfl ?_
  refine W_move rfl rfl ?_
  refine W_buildSlice (l := [rbP rb]) ty122 ty127 (.cons rfl rfl rfl rfl rfl .nil) rfl rfl rfl rfl rfl rfl rfl (fun b31 => ?_)
  refine W_append (news := [rbP rb]) (m := 1) (HB := XQ) (H0 := (b31, .cells 127 1 [rbP rb]) :: (HX ++ ((b14, .cells 126 289 (peRow v rn0 of0)) :: (XS.flatten ++ H)))) rfl rfl ty122 ty127 rfl (by decide) hv rfl (Holds.own (b := b31) zM) rfl (by simp only [maxLen]; omega) (by omega) zH rfl (fun v' X' hv' => ?_)
  refine W_nilCheck rfl rfl ?_
  refine W_fieldAddr rfl fld126_0 zd rfl ?_
  have hv1 : v'.oneCell' = true := by obtain ⟨_, _, rfl, _⟩ := hv'.shape; rfl
  refine W_store (l' := (peRow v' rn0 of0)) rfl rfl ty122 hv1 rfl (b := b14) zM (by rw [peRow_len List.length_replicate List.length_replicate]; rfl) rfl zU ?_
  refine W_nil ?_
  refine W_blk ?_
  refine W_region ?_
  refine W_bin rfl rfl (b_add (m := ((i + 1 : Nat) : Int)) ((i64w zO).trans zO)) rfl ?_
  refine W_move rfl rfl ?_
  refine W_nil ?_
  refine W_again ⟨i + 1, v', X', XS ++ [HX], rbs ++ [rb]⟩ ⟨by show i + 1 ≤ n; omega, by show (rbs ++ [rb]).length = i + 1; rw [List.length_append, hlen]; rfl, by show OwnS 127 1 v' (rbs ++ [rb]).length ((rbs ++ [rb]).map rbP) X'; rw [List.length_append, List.map_append]; exact hv', by show (XS ++ [HX]).length = (rbs ++ [rb]).length; rw [List.length_append, List.length_append, hl]; rfl, rings_snoc hl hw hX⟩ (by show n - (i + 1) < n - i; omega) (sub_cons rfl (sub_cons rfl (sub_cons rfl (sub_nil _)))) rfl (by show HSub _ ((b14, .cells 126 289 (peRow v' rn0 of0)) :: (X' ++ ((XS ++ [HX]).flatten ++ H))); rw [List.flatten_append, List.flatten_singleton, List.append_assoc]; first | exact hsubI | (repeat (first | with_reducible exact HSub.refl _ | refine HSub.cons zT ?_ | refine HSub.app zS ?_ | exact HSub.nil _ | exact HSub.refl _ | refine HSub.drop ?_ | refine HSub.dropS ?_)))
 ·skip
  refine W_exit rfl ?_
  refine W_sr ?_
  refine W_move rfl rfl ?_
  refine W_assign rfl rfl ?_
  refine W_assign rfl rfl ?_
  refine W_nil ?_
  refine W_ret2m (H2 := (b14, .cells 126 289 (peRow v rn0 of0)) :: (XQ ++ (XS.flatten ++ H))) Tryz.results33 rfl rfl (.nil _) zH ?_
  obtain rfl : i = n := by omega
  exact ⟨b14, (b14, .cells 126 289 (peRow v rn0 of0)) :: (XQ ++ XS.flatten), rfl, .mk (rbs := rbs) (by rw [← hlen]; exact hv) (by omega) hw runs0 (quok0 _), by show _ = _ :: ((XQ ++ XS.flatten) ++ H); rw [List.append_assoc]⟩
abbrev tmOf (now a turn : Nat) (id : Int) : Tm := ⟨id, (placeT now a).1, turn + 1⟩
theorem Put_L {w0 : World} {H HW : Heap} {bw now turn a : Nat} {L : List Tm} {id : Int} (hW : WheelH bw now L turn HW) (hnow : now < 18446744073709551615) (ha : a ≤ 18446744073709551615) (hid : 0 ≤ id ∧ id < 256) (hnew : id ∉ L.map (·.id)) (htn : turn ≤ 4611686018427387904) :
  LCalls Tryz.prog w0 79 #[.pointer (some ⟨bw, 0, none⟩), .int .i64 id, .int .u64 ((a : Nat) : Int)] (HW ++ H) (fun v H' => ∃ HW', WheelH bw now (L ++ [tmOf now a turn id]) (turn + 1) HW' ∧ v = .tuple #[.agg (placeT now a).1.v.toArray, .int .i64 0] ∧ H' = HW' ++ H) := by
 cases hW with
 | @mk bm c sl XS bs l h =>
  obtain ⟨num, p1, p2, p3, p4, p5, p6, p7⟩ := place_is (at_ := a) hnow
  obtain ⟨hv, hh⟩ := h.miss hnew
  have hs : (placeT now a).1.slot < 64 := by rw [p3]; omega
  refine (Put_at (e := (placeT now a).1) h hnow ha hid htn (Prod.ext rfl p1) ⟨p2, hs⟩ hv hh).mono ?_
  rintro v H' ⟨v', X', z, rfl, hO, hz, rfl⟩
  exact ⟨_, .mk (h.put hid hnew ⟨p2, hs⟩ ⟨num, p3, p4, p5, p6, p7⟩ hO hz), rfl, rfl⟩
theorem WhIs.hit {now turn c : Nat} {L : List Tm} {sl : List Value} {XS : List Heap} {bs : List Nat} {l : Ents Int} (h : WhIs now L sl XS bs l c turn) {t : Tm} (ht : t ∈ L) : (mGet l t.id).getD zEnt = .agg (t.s.v ++ [Value.int .i64 ((t.turn : Nat) : Int)]).toArray ∧ mHas l t.id = true := by
 have h1 : mHas l t.id = true := mHas_iff.2 (h.keys.mem_iff.2 (List.mem_map_of_mem ht))
 refine ⟨?_, h1⟩
 cases hf : l.find? (fun p => decide (t.id = p.1)) with
 | none =>
  exfalso
  obtain ⟨p, hp, e⟩ := List.mem_map.1 (mHas_iff.1 h1)
  have := List.find?_eq_none.1 hf p hp
  exact this (decide_eq_true e.symm)
 | some p =>
  have h2a := List.find?_some hf
  have h2 : t.id = p.1 := of_decide_eq_true h2a
  obtain ⟨u, hu, e1, e2⟩ := h.val p (List.mem_of_find?_eq_some hf)
  obtain rfl : u = t := tm_uniq h.nodup hu ht (by rw [e1, h2])
  unfold mGet
  rw [hf]
  exact e2
theorem Put_late {w0 : World} {H HW : Heap} {bw turn a : Nat} {L : List Tm} {id : Int} (hW : WheelH bw 18446744073709551615 L turn HW) (hid : 0 ≤ id ∧ id < 256) (ha : a ≤ 18446744073709551615) (hnew : id ∉ L.map (·.id)) :
  LCalls Tryz.prog w0 79 #[.pointer (some ⟨bw, 0, none⟩), .int .i64 id, .int .u64 ((a : Nat) : Int)] (HW ++ H) (fun v H' => v = .tuple #[.agg zSpot.v.toArray, .int .i64 12] ∧ H' = HW ++ H) := by
 cases hW with
 | @mk bm c sl XS bs l h =>
  obtain ⟨hv, hh⟩ := h.miss hnew
  refine (Put_clock hid ha h.row (bm := bm) (c := c) (l := l) (turn := turn) zM zM hv hh).mono ?_
  rintro v H' ⟨rfl, rfl⟩
  exact ⟨rfl, rfl⟩
theorem new_heap (a b : Nat × Blk) (H : Heap) : a :: b :: H = (a :: b :: (List.replicate 512 ([] : Heap)).flatten) ++ H := by
 rw [List.flatten_replicate_nil]; rfl
theorem New_W {w0 : World} {H : Heap} {now : Nat} : LCalls Tryz.prog w0 73 #[.int .u64 ((now : Nat) : Int)] H (fun v H' => ∃ bw HW, v = .pointer (some ⟨bw, 0, none⟩) ∧ WheelH bw now [] 0 HW ∧ H' = HW ++ H) :=
 by
 refine New_L.mono ?_
 rintro v H' ⟨bw, bm, rfl, rfl⟩
 refine ⟨bw, _, rfl, .mk (bm := bm) .new, ?_⟩
 exact new_heap _ _ _
theorem OwnS.is {e : TypeId} {s : Nat} {v : Value} {n : Nat} {xs : List Value} {HB : Heap} (h : OwnS e s v n xs HB) (hn : 0 < n) : ∃ b cap, v = .slice (some ⟨b, 0, none⟩) n cap ∧ HB = [(b, .cells e (cap * s) xs)] ∧ n ≤ cap ∧ cap ≤ maxLen := by
 cases h with
 | nil => omega
 | own _ h2 h3 => exact ⟨_, _, rfl, rfl, h2, h3⟩
theorem del_miss {w0 : World} {H : Heap} {bw bm now turn c : Nat} {sl : List Value} {bs : List Nat} {l : Ents Int} {id : Int} (hok : RowOk sl bs) (hv : (mGet l id).getD zEnt = zEnt) (hh : mHas l id = false)  : LCalls Tryz.prog w0 119 #[.pointer (some ⟨bw, 0, none⟩), .int .i64 id] ((bw, .cells 167 523 (whRow now sl bs bm turn)) :: (bm, .obj (mapO (Value.int .i64) l c)) :: H) (fun v H' => v = .bool false ∧ H' = (bw, .cells 167 523 (whRow now sl bs bm turn)) :: (bm, .obj (mapO (Value.int .i64) l c)) :: H) := by
 refine L_enter (l := [.pointer (some ⟨bw, 0, none⟩), .int .i64 id]) Tryz.func119 rfl Tryz.ntmps119 rfl rfl ?_
 refine W_sr ?_
 refine W_box (l := [.int .i64 id]) rfl rfl rfl (fun b3 => ?_)
 refine W_assign rfl rfl ?_
 refine W_nil (W_seq ?_)
 refine W_hsub (H' := (b3, .cells 3 1 [.int .i64 id]) :: (bw, .cells 167 523 (whRow now sl bs bm turn)) :: (bm, .obj (mapO (Value.int .i64) l c)) :: H) (.refl _) ?_
 refine W_anyC [(b3, .cells 3 1 [.int .i64 id]), (bw, .cells 167 523 (whRow now sl bs bm turn)), (bm, .obj (mapO (Value.int .i64) l c))] zk ?_
 refine WC_take 0 (l' := #[true, false, false, false, false, false, false, false, false, false, false, false]) rfl zK zK zK rfl zK (X_move rfl) rfl ?_
 refine WC_take 1 (l' := #[true, true, false, false, false, false, false, false, false, false, false, false]) rfl zK zK zK rfl zK (X_nilCheck rfl) rfl ?_
 refine WC_take 2 (l' := #[true, true, true, false, false, false, false, false, false, false, false, false]) rfl zK zK zK rfl zK (X_fieldAddr rfl fld167_3 zd) rfl ?_
 refine WC_take 3 (l' := #[true, true, true, true, false, false, false, false, false, false, false, false]) rfl zK zK zK rfl zK (X_load (v := .map (some bm)) rfl ty161 rfl (Cell.own (b := bw) zM (wh_map hok))) rfl ?_
 refine WC_take 4 (l' := #[true, true, true, true, true, false, false, false, false, false, false, false]) rfl zK zK zK rfl zK (X_load (v := .int .i64 id) rfl ty3 rfl (Cell.own (b := b3) zM rfl)) rfl ?_
 refine WC_take 5 (l' := #[true, true, true, true, true, true, false, false, false, false, false, false]) rfl zK zK zK rfl zK (X_lookup (b := bm) (a := id) (zE := zEnt) rfl rfl keyI ty161 zEz zM) rfl ?_
 simp only [if_true]
 rw [hv, hh]
 refine WC_take 6 (l' := #[true, true, true, true, true, true, true, false, false, false, false, false]) rfl zK zK zK rfl zK (X_move rfl) rfl ?_
 refine WC_take 7 (l' := #[true, true, true, true, true, true, true, true, false, false, false, false]) rfl zK zK zK rfl zK (X_extract rfl rfl) rfl ?_
 refine WC_take 8 (l' := #[true, true, true, true, true, true, true, true, true, false, false, false]) rfl zK zK zK rfl zK (X_extract rfl rfl) rfl ?_
 refine WC_one 9 (l' := #[true, true, true, true, true, true, true, true, true, true, false, false]) zH zK rfl zK ?_
 refine W_alloc (l := [.int .i64 0, .int .i64 0, .int .u64 0, .int .u64 0, .int .i64 0]) ty169 rfl rfl (fun b5 => ?_)
 refine W_nil ?_
 refine WC_goal ?_
 refine WC_one 10 (l' := #[true, true, true, true, true, true, true, true, true, true, true, false]) zH zK rfl zK ?_
 refine W_storeA (l' := [.int .i64 0, .int .i64 0, .int .u64 0, .int .u64 0, .int .i64 0]) rfl rfl ty169 rfl rfl (b := b5) zM (by exact Nat.le_refl 5) rfl zU ?_
 refine W_nil ?_
 refine WC_goal ?_
 refine WC_take 11 (l' := #[true, true, true, true, true, true, true, true, true, true, true, true]) rfl zK zK zK rfl zK (X_assign rfl) rfl ?_
 refine WC_done zH zK ?_
 refine W_seq (W_sr ?_)
 refine W_move rfl rfl ?_
 refine W_not rfl rfl ?_
 refine W_nil ?_
 refine W_condT rfl rfl ?_
 refine W_sr ?_
 refine W_assign rfl rfl ?_
 refine W_nil ?_
 refine W_ret1m (H2 := (bw, .cells 167 523 (whRow now sl bs bm turn)) :: (bm, .obj (mapO (Value.int .i64) l c)) :: H) Tryz.results119 rfl (.nil _) zH ?_
 exact ⟨rfl, rfl⟩
theorem del_at {w0 : World} {H : Heap} {bw bm now turn c tn z : Nat} {L : List Tm} {sl : List Value} {XS : List Heap} {bs : List Nat} {l : Ents Int} {id : Int} {e : Spot} {v0 : Value} {X : Heap} (hok : RowOk sl bs) (hmap : MapOk l c) (hv : (mGet l id).getD zEnt = .agg (e.v ++ [Value.int .i64 ((tn : Nat) : Int)]).toArray) (hh : mHas l id = true) (hsp : e.lv < 8 ∧ e.slot < 64) (hz : bs[e.lv]? = some z) (hz2 : z < 18446744073709551616) (hlen : (idsAt L (e.lv * 64 + e.slot)).length ≤ 256) (hpos : 0 < (idsAt L (e.lv * 64 + e.slot)).length) (hsl : sl[(e.lv * 64 + e.slot)]? = some v0) (hX : XS[(e.lv * 64 + e.slot)]? = some X) (hO : OwnS 3 1 v0 (idsAt L (e.lv * 64 + e.slot)).length ((idsAt L (e.lv * 64 + e.slot)).map (Value.int .i64)) X)  : LCalls Tryz.prog w0 119 #[.pointer (some ⟨bw, 0, none⟩), .int .i64 id] ((bw, .cells 167 523 (whRow now sl bs bm turn)) :: (bm, .obj (mapO (Value.int .i64) l c)) :: (XS.flatten ++ H)) (fun v H' => ∃ b cap, v = .bool true ∧ (del1 (idsAt L (e.lv * 64 + e.slot)) id).length ≤ cap ∧ cap ≤ maxLen ∧ H' = (bw, .cells 167 523 (whRow now (sl.set (e.lv * 64 + e.slot) (Value.slice (some ⟨b, 0, none⟩) (del1 (idsAt L (e.lv * 64 + e.slot)) id).length cap)) (if (del1 (idsAt L (e.lv * 64 + e.slot)) id).length = 0 then (bs.set e.lv (outL z [(e.slot : Int)])) else bs) bm turn)) :: (bm, .obj (mapO (Value.int .i64) (mDel l id) c)) :: ((b, .cells 3 (cap * 1) (((del1 (idsAt L (e.lv * 64 + e.slot)) id)).map (Value.int .i64))) :: ((XS.set (e.lv * 64 + e.slot) []).flatten ++ H))) := by
 obtain ⟨b, cap, hv0, hXe, hcap, hmax⟩ := OwnS.is hO hpos
 have hok2 : ∀ v, RowOk (sl.set (e.lv * 64 + e.slot) v) bs := fun v => hok.setSl _ v
 have hok3 : ∀ v, RowOk (sl.set (e.lv * 64 + e.slot) v) (bs.set e.lv (outL z [(e.slot : Int)])) := fun v => (hok.setSl _ v).setBs _ _
 have hdl := del1_le (idsAt L (e.lv * 64 + e.slot)) id
 refine L_enter (l := [.pointer (some ⟨bw, 0, none⟩), .int .i64 id]) Tryz.func119 rfl Tryz.ntmps119 rfl rfl ?_
 refine W_sr ?_
 refine W_box (l := [.int .i64 id]) rfl rfl rfl (fun b3 => ?_)
 refine W_assign rfl rfl ?_
 refine W_nil (W_seq ?_)
 refine W_anyC [(b3, .cells 3 1 [.int .i64 id]), (bw, .cells 167 523 (whRow now sl bs bm turn)), (bm, .obj (mapO (Value.int .i64) l c))] zk ?_
 refine WC_take 0 (l' := #[true, false, false, false, false, false, false, false, false, false, false, false]) rfl zK zK zK rfl zK (X_move rfl) rfl ?_
 refine WC_take 1 (l' := #[true, true, false, false, false, false, false, false, false, false, false, false]) rfl zK zK zK rfl zK (X_nilCheck rfl) rfl ?_
 refine WC_take 2 (l' := #[true, true, true, false, false, false, false, false, false, false, false, false]) rfl zK zK zK rfl zK (X_fieldAddr rfl fld167_3 zd) rfl ?_
 refine WC_take 3 (l' := #[true, true, true, true, false, false, false, false, false, false, false, false]) rfl zK zK zK rfl zK (X_load (v := .map (some bm)) rfl ty161 rfl (Cell.own (b := bw) zM (wh_map hok))) rfl ?_
 refine WC_take 4 (l' := #[true, true, true, true, true, false, false, false, false, false, false, false]) rfl zK zK zK rfl zK (X_load (v := .int .i64 id) rfl ty3 rfl (Cell.own (b := b3) zM rfl)) rfl ?_
 refine WC_take 5 (l' := #[true, true, true, true, true, true, false, false, false, false, false, false]) rfl zK zK zK rfl zK (X_lookup (b := bm) (a := id) (zE := zEnt) rfl rfl keyI ty161 zEz zM) rfl ?_
 simp only [if_true]
 rw [hv, hh]
 refine WC_take 6 (l' := #[true, true, true, true, true, true, true, false, false, false, false, false]) rfl zK zK zK rfl zK (X_move rfl) rfl ?_
 refine WC_take 7 (l' := #[true, true, true, true, true, true, true, true, false, false, false, false]) rfl zK zK zK rfl zK (X_extract rfl rfl) rfl ?_
 refine WC_take 8 (l' := #[true, true, true, true, true, true, true, true, true, false, false, false]) rfl zK zK zK rfl zK (X_extract rfl rfl) rfl ?_
 refine WC_one 9 (l' := #[true, true, true, true, true, true, true, true, true, true, false, false]) zH zK rfl zK ?_
 refine W_alloc (l := [.int .i64 0, .int .i64 0, .int .u64 0, .int .u64 0, .int .i64 0]) ty169 rfl rfl (fun b5 => ?_)
 refine W_nil ?_
 refine WC_goal ?_
 refine WC_one 10 (l' := #[true, true, true, true, true, true, true, true, true, true, true, false]) zH zK rfl zK ?_
 refine W_storeA (l' := (e.v ++ [Value.int .i64 ((tn : Nat) : Int)])) rfl rfl ty169 rfl rfl (b := b5) zM (by exact Nat.le_refl 5) rfl zU ?_
 refine W_nil ?_
 refine WC_goal ?_
 refine WC_take 11 (l' := #[true, true, true, true, true, true, true, true, true, true, true, true]) rfl zK zK zK rfl zK (X_assign rfl) rfl ?_
 refine WC_done zH zK ?_
 refine W_seq (W_sr ?_)
 refine W_move rfl rfl ?_
 refine W_not rfl rfl ?_
 refine W_nil ?_
 refine W_condF rfl rfl ?_
 refine W_skip (W_sr ?_)
 refine W_fieldAddr rfl fld169_0 zd rfl ?_
 refine W_loadB (vs := e.v) rfl ty32 rfl (b := b5) zM rfl rfl rfl ?_
 refine W_alloc (l := zSpot.v) ty32 rfl rfl (fun b7 => ?_)
 refine W_storeA (l' := e.v) rfl rfl ty32 rfl rfl (b := b7) zM (by exact Nat.le_refl 4) rfl zU ?_
 refine W_nil (W_seq ?_)
 refine W_hsub (.cons (.here _) (.cons (.here _) (.cons (.here _) (.cons (.here _) (.cons (.here _) (flat_out hX)))))) ?_
 subst hv0 hXe
 refine W_hsub (H' := (b, .cells 3 (cap * 1) (((idsAt L (e.lv * 64 + e.slot))).map (Value.int .i64))) :: (b7, .cells 32 4 e.v) :: (b5, .cells 169 5 (e.v ++ [Value.int .i64 ((tn : Nat) : Int)])) :: (b3, .cells 3 1 [.int .i64 id]) :: (bw, .cells 167 523 (whRow now sl bs bm turn)) :: (bm, .obj (mapO (Value.int .i64) l c)) :: ((XS.set (e.lv * 64 + e.slot) []).flatten ++ H)) zH ?_
 refine W_anyC [(b3, .cells 3 1 [.int .i64 id]), (b7, .cells 32 4 e.v), (bw, .cells 167 523 (whRow now sl bs bm turn))] zk ?_
 refine WC_take 0 (l' := #[true, false, false, false, false, false, false, false, false, false, false, false, false]) rfl zK zK zK rfl zK (X_move rfl) rfl ?_
 refine WC_take 1 (l' := #[true, true, false, false, false, false, false, false, false, false, false, false, false]) rfl zK zK zK rfl zK (X_fieldAddr rfl fld32_0 zd) rfl ?_
 refine WC_take 2 (l' := #[true, true, true, false, false, false, false, false, false, false, false, false, false]) rfl zK zK zK rfl zK (X_load (v := .int .i64 (e.lv : Int)) rfl ty3 rfl (Cell.own (b := b7) zM rfl)) rfl ?_
 refine WC_take 3 (l' := #[true, true, true, true, false, false, false, false, false, false, false, false, false]) rfl zK zK zK rfl zK (X_fieldAddr rfl fld32_1 zd) rfl ?_
 refine WC_take 4 (l' := #[true, true, true, true, true, false, false, false, false, false, false, false, false]) rfl zK zK zK rfl zK (X_load (v := .int .i64 (e.slot : Int)) rfl ty3 rfl (Cell.own (b := b7) zM rfl)) rfl ?_
 refine WC_take 5 (l' := #[true, true, true, true, true, true, false, false, false, false, false, false, false]) rfl zK zK zK rfl zK (X_nilCheck rfl) rfl ?_
 refine WC_take 6 (l' := #[true, true, true, true, true, true, true, false, false, false, false, false, false]) rfl zK zK zK rfl zK (X_fieldAddr rfl fld167_1 zd) rfl ?_
 refine WC_take 7 (l' := #[true, true, true, true, true, true, true, true, false, false, false, false, false]) rfl zK zK zK rfl zK (X_indexAddrA (j := e.lv) rfl rfl ty163 ty162 rfl hsp.1 (at_ := 1 + e.lv * 64) zO) rfl ?_
 refine WC_take 8 (l' := #[true, true, true, true, true, true, true, true, true, false, false, false, false]) rfl zK zK zK rfl zK (X_indexAddrA (j := e.slot) rfl rfl ty162 ty24 rfl hsp.2 (at_ := 1 + (e.lv * 64 + e.slot)) zO) rfl ?_
 refine WC_take 9 (l' := #[true, true, true, true, true, true, true, true, true, true, false, false, false]) rfl zK zK zK rfl zK (X_load (v := .slice (some ⟨b, 0, none⟩) (idsAt L (e.lv * 64 + e.slot)).length cap) rfl ty24 rfl (Cell.own (b := bw) zM (wh_sl hok hsl))) rfl ?_
 refine WC_take 10 (l' := #[true, true, true, true, true, true, true, true, true, true, true, false, false]) rfl zK zK zK rfl zK (X_makeFunc .nil (.cons rfl .nil)) rfl ?_
 refine WC_one 11 (l' := #[true, true, true, true, true, true, true, true, true, true, true, true, false]) zH zK rfl zK ?_
 refine W_call (.cons rfl (.cons rfl .nil)) Tryz.call134 rfl ((delete_L (l := (idsAt L (e.lv * 64 + e.slot))) (id := id) (bd := b3) (b := b) (tot := cap * 1) (cap := cap) (H := (b7, .cells 32 4 e.v) :: (b5, .cells 169 5 (e.v ++ [Value.int .i64 ((tn : Nat) : Int)])) :: (b3, .cells 3 1 [.int .i64 id]) :: (bw, .cells 167 523 (whRow now sl bs bm turn)) :: (bm, .obj (mapO (Value.int .i64) l c)) :: ((XS.set (e.lv * 64 + e.slot) []).flatten ++ H)) zO hcap zM).hsub zH) ?_
 rintro v H' ⟨rfl, rfl⟩
 refine W_nil ?_
 refine WC_goal ?_
 refine WC_take 12 (l' := #[true, true, true, true, true, true, true, true, true, true, true, true, true]) rfl zK zK zK rfl zK (X_assign rfl) rfl ?_
 refine WC_done zH zK ?_
 refine W_seq ?_
 refine W_anyS [(b7, .cells 32 4 e.v), (bw, .cells 167 523 (whRow now sl bs bm turn))] 10 zk ?_
 refine WS_take 0 (l' := #[true, false, false, false, false, false, false, false, false, false, false]) rfl rfl zK zK zK zK rfl zK (X_move rfl) rfl ?_
 refine WS_take 1 (l' := #[true, true, false, false, false, false, false, false, false, false, false]) rfl rfl zK zK zK zK rfl zK (X_fieldAddr rfl fld32_0 zd) rfl ?_
 refine WS_take 2 (l' := #[true, true, true, false, false, false, false, false, false, false, false]) rfl rfl zK zK zK zK rfl zK (X_load (v := .int .i64 (e.lv : Int)) rfl ty3 rfl (Cell.own (b := b7) zM rfl)) rfl ?_
 refine WS_take 3 (l' := #[true, true, true, true, false, false, false, false, false, false, false]) rfl rfl zK zK zK zK rfl zK (X_fieldAddr rfl fld32_1 zd) rfl ?_
 refine WS_take 4 (l' := #[true, true, true, true, true, false, false, false, false, false, false]) rfl rfl zK zK zK zK rfl zK (X_load (v := .int .i64 (e.slot : Int)) rfl ty3 rfl (Cell.own (b := b7) zM rfl)) rfl ?_
 refine WS_take 5 (l' := #[true, true, true, true, true, true, false, false, false, false, false]) rfl rfl zK zK zK zK rfl zK (X_move rfl) rfl ?_
 refine WS_takeP 6 (l' := #[true, true, true, true, true, true, true, false, false, false, false]) rfl rfl zK zK zK rfl zK (X_nilCheck rfl) rfl ?_
 refine WS_takeP 7 (l' := #[true, true, true, true, true, true, true, true, false, false, false]) rfl rfl zK zK zK rfl zK (X_fieldAddr rfl fld167_1 zd) rfl ?_
 refine WS_takeP 8 (l' := #[true, true, true, true, true, true, true, true, true, false, false]) rfl rfl zK zK zK rfl zK (X_indexAddrA (j := e.lv) rfl rfl ty163 ty162 rfl hsp.1 (at_ := 1 + e.lv * 64) zO) rfl ?_
 refine WS_take 9 (l' := #[true, true, true, true, true, true, true, true, true, true, false]) rfl rfl zK zK zK zK rfl zK (X_indexAddrA (j := e.slot) rfl rfl ty162 ty24 rfl hsp.2 (at_ := 1 + (e.lv * 64 + e.slot)) zO) rfl ?_
 refine WS_last (l' := #[true, true, true, true, true, true, true, true, true, true, true]) zH zK rfl zK ?_
 refine W_store (l' := whRow now (sl.set (e.lv * 64 + e.slot) (Value.slice (some ⟨b, 0, none⟩) (del1 (idsAt L (e.lv * 64 + e.slot)) id).length cap)) bs bm turn) rfl rfl ty24 rfl rfl (b := bw) zM (by rw [wh_len hok, Nat.blt_eq]; omega) (wh_setSl hok (by omega)) zU ?_
 refine W_nil ?_
 refine WC_goal ?_
 refine WC_done (.nil _) zK ?_
 refine W_seq (W_sr ?_)
 refine W_move rfl rfl ?_
 refine W_len rfl ty24 rfl rfl ?_
 refine W_bin rfl rfl b_eql rfl ?_
 refine W_nil ?_
 refine W_condPS (p := (del1 (idsAt L (e.lv * 64 + e.slot)) id).length = 0) rfl (by rw [decide_eq_true_eq]; omega) (fun q0 => ?_) (fun q0 => ?_)
 ·skip
  refine W_anyS [(b7, .cells 32 4 e.v), (bw, .cells 167 523 (whRow now (sl.set (e.lv * 64 + e.slot) (Value.slice (some ⟨b, 0, none⟩) (del1 (idsAt L (e.lv * 64 + e.slot)) id).length cap)) bs bm turn))] 17 zk ?_
  refine WS_take 0 (l' := #[true, false, false, false, false, false, false, false, false, false, false, false, false, false, false, false, false, false]) rfl rfl zK zK zK zK rfl zK (X_move rfl) rfl ?_
  refine WS_take 1 (l' := #[true, true, false, false, false, false, false, false, false, false, false, false, false, false, false, false, false, false]) rfl rfl zK zK zK zK rfl zK (X_fieldAddr rfl fld32_0 zd) rfl ?_
  refine WS_take 2 (l' := #[true, true, true, false, false, false, false, false, false, false, false, false, false, false, false, false, false, false]) rfl rfl zK zK zK zK rfl zK (X_load (v := .int .i64 (e.lv : Int)) rfl ty3 rfl (Cell.own (b := b7) zM rfl)) rfl ?_
  refine WS_take 3 (l' := #[true, true, true, true, false, false, false, false, false, false, false, false, false, false, false, false, false, false]) rfl rfl zK zK zK zK rfl zK (X_move rfl) rfl ?_
  refine WS_take 4 (l' := #[true, true, true, true, true, false, false, false, false, false, false, false, false, false, false, false, false, false]) rfl rfl zK zK zK zK rfl zK (X_fieldAddr rfl fld32_0 zd) rfl ?_
  refine WS_take 5 (l' := #[true, true, true, true, true, true, false, false, false, false, false, false, false, false, false, false, false, false]) rfl rfl zK zK zK zK rfl zK (X_load (v := .int .i64 (e.lv : Int)) rfl ty3 rfl (Cell.own (b := b7) zM rfl)) rfl ?_
  refine WS_take 6 (l' := #[true, true, true, true, true, true, true, false, false, false, false, false, false, false, false, false, false, false]) rfl rfl zK zK zK zK rfl zK (X_nilCheck rfl) rfl ?_
  refine WS_take 7 (l' := #[true, true, true, true, true, true, true, true, false, false, false, false, false, false, false, false, false, false]) rfl rfl zK zK zK zK rfl zK (X_fieldAddr rfl fld167_2 zd) rfl ?_
  refine WS_take 8 (l' := #[true, true, true, true, true, true, true, true, true, false, false, false, false, false, false, false, false, false]) rfl rfl zK zK zK zK rfl zK (X_indexAddrA (j := e.lv) rfl rfl ty165 ty164 rfl hsp.1 (at_ := 513 + e.lv) zO) rfl ?_
  refine WS_take 9 (l' := #[true, true, true, true, true, true, true, true, true, true, false, false, false, false, false, false, false, false]) rfl rfl zK zK zK zK rfl zK (X_load (v := .int .u64 (z : Int)) rfl ty164 rfl (Cell.own (b := bw) zM (wh_bs (hok2 _) hz))) rfl ?_
  refine WS_take 10 (l' := #[true, true, true, true, true, true, true, true, true, true, true, false, false, false, false, false, false, false]) rfl rfl zK zK zK zK rfl zK (X_fieldAddr rfl fld32_1 zd) rfl ?_
  refine WS_take 11 (l' := #[true, true, true, true, true, true, true, true, true, true, true, true, false, false, false, false, false, false]) rfl rfl zK zK zK zK rfl zK (X_load (v := .int .i64 (e.slot : Int)) rfl ty3 rfl (Cell.own (b := b7) zM rfl)) rfl ?_
  refine WS_takeP 14 (l' := #[true, true, true, true, true, true, true, true, true, true, true, true, false, false, true, false, false, false]) rfl rfl zK zK zK rfl zK (X_nilCheck rfl) rfl ?_
  refine WS_takeP 15 (l' := #[true, true, true, true, true, true, true, true, true, true, true, true, false, false, true, true, false, false]) rfl rfl zK zK zK rfl zK (X_fieldAddr rfl fld167_2 zd) rfl ?_
  refine WS_one 12 (l' := #[true, true, true, true, true, true, true, true, true, true, true, true, true, false, true, true, false, false]) zH rfl zK rfl zK ?_
  refine W_buildSlice ty24 ty3 (.cons rfl rfl rfl rfl rfl .nil) rfl rfl rfl rfl rfl rfl rfl (fun b59 => ?_)
  refine W_nil ?_
  refine WS_goal ?_
  refine WS_one 13 (l' := #[true, true, true, true, true, true, true, true, true, true, true, true, true, true, true, true, false, false]) zH rfl zK rfl zK ?_
  refine W_callq (.cons rfl (.cons rfl .nil)) Tryz.call136 rfl (out_q (l := [(e.slot : Int)]) hz2 (show 1 ≤ 4611686018427387904 by decide) (Holds.own (b := b59) zM)) ?_
  refine W_nil ?_
  refine WS_goal ?_
  refine WS_take 16 (l' := #[true, true, true, true, true, true, true, true, true, true, true, true, true, true, true, true, true, false]) rfl rfl zK zK zK zK rfl zK (X_indexAddrA (j := e.lv) rfl rfl ty165 ty164 rfl hsp.1 (at_ := 513 + e.lv) zO) rfl ?_
  refine WS_last (l' := #[true, true, true, true, true, true, true, true, true, true, true, true, true, true, true, true, true, true]) zH zK rfl zK ?_
  refine W_store (l' := whRow now (sl.set (e.lv * 64 + e.slot) (Value.slice (some ⟨b, 0, none⟩) (del1 (idsAt L (e.lv * 64 + e.slot)) id).length cap)) (bs.set e.lv (outL z [(e.slot : Int)])) bm turn) rfl rfl ty164 rfl rfl (b := bw) zM (by rw [wh_len (hok2 _), Nat.blt_eq]; omega) (wh_setBs (hok2 _) hsp.1) zU ?_
  refine W_nil ?_
  refine WC_goal ?_
  refine WC_done (.nil _) zK ?_
  refine W_seq ?_
  refine W_anyC [(b3, .cells 3 1 [.int .i64 id]), (bw, .cells 167 523 (whRow now (sl.set (e.lv * 64 + e.slot) (Value.slice (some ⟨b, 0, none⟩) (del1 (idsAt L (e.lv * 64 + e.slot)) id).length cap)) (bs.set e.lv (outL z [(e.slot : Int)])) bm turn))] zk ?_
  refine WC_take 0 (l' := #[true, false, false, false, false, false]) rfl zK zK zK rfl zK (X_move rfl) rfl ?_
  refine WC_take 1 (l' := #[true, true, false, false, false, false]) rfl zK zK zK rfl zK (X_nilCheck rfl) rfl ?_
  refine WC_take 2 (l' := #[true, true, true, false, false, false]) rfl zK zK zK rfl zK (X_fieldAddr rfl fld167_3 zd) rfl ?_
  refine WC_take 3 (l' := #[true, true, true, true, false, false]) rfl zK zK zK rfl zK (X_load (v := .map (some bm)) rfl ty161 rfl (Cell.own (b := bw) zM (wh_map (hok3 _)))) rfl ?_
  refine WC_take 4 (l' := #[true, true, true, true, true, false]) rfl zK zK zK rfl zK (X_load (v := .int .i64 id) rfl ty3 rfl (Cell.own (b := b3) zM rfl)) rfl ?_
  refine WC_one 5 (l' := #[true, true, true, true, true, true]) zH zK rfl zK ?_
  refine W_delete (a := id) (b := bm) rfl rfl keyI ty161 hmap zU rfl ?_
  refine W_nil ?_
  refine WC_goal ?_
  refine WC_done zH zK ?_
  refine W_sr ?_
  refine W_assign rfl rfl ?_
  refine W_nil ?_
  refine W_ret1m (H2 := (bw, .cells 167 523 (whRow now (sl.set (e.lv * 64 + e.slot) (Value.slice (some ⟨b, 0, none⟩) (del1 (idsAt L (e.lv * 64 + e.slot)) id).length cap)) (bs.set e.lv (outL z [(e.slot : Int)])) bm turn)) :: (bm, .obj (mapO (Value.int .i64) (mDel l id) c)) :: ((b, .cells 3 (cap * 1) (((del1 (idsAt L (e.lv * 64 + e.slot)) id)).map (Value.int .i64))) :: ((XS.set (e.lv * 64 + e.slot) []).flatten ++ H))) Tryz.results119 rfl (.nil _) zH ?_
  exact ⟨b, cap, rfl, by omega, hmax, by rw [if_pos q0]⟩
 ·skip
  refine W_skip (W_seq ?_)
  refine W_anyC [(b3, .cells 3 1 [.int .i64 id]), (bw, .cells 167 523 (whRow now (sl.set (e.lv * 64 + e.slot) (Value.slice (some ⟨b, 0, none⟩) (del1 (idsAt L (e.lv * 64 + e.slot)) id).length cap)) bs bm turn))] zk ?_
  refine WC_take 0 (l' := #[true, false, false, false, false, false]) rfl zK zK zK rfl zK (X_move rfl) rfl ?_
  refine WC_take 1 (l' := #[true, true, false, false, false, false]) rfl zK zK zK rfl zK (X_nilCheck rfl) rfl ?_
  refine WC_take 2 (l' := #[true, true, true, false, false, false]) rfl zK zK zK rfl zK (X_fieldAddr rfl fld167_3 zd) rfl ?_
  refine WC_take 3 (l' := #[true, true, true, true, false, false]) rfl zK zK zK rfl zK (X_load (v := .map (some bm)) rfl ty161 rfl (Cell.own (b := bw) zM (wh_map (hok2 _)))) rfl ?_
  refine WC_take 4 (l' := #[true, true, true, true, true, false]) rfl zK zK zK rfl zK (X_load (v := .int .i64 id) rfl ty3 rfl (Cell.own (b := b3) zM rfl)) rfl ?_
  refine WC_one 5 (l' := #[true, true, true, true, true, true]) zH zK rfl zK ?_
  refine W_delete (a := id) (b := bm) rfl rfl keyI ty161 hmap zU rfl ?_
  refine W_nil ?_
  refine WC_goal ?_
  refine WC_done zH zK ?_
  refine W_sr ?_
  refine W_assign rfl rfl ?_
  refine W_nil ?_
  refine W_ret1m (H2 := (bw, .cells 167 523 (whRow now (sl.set (e.lv * 64 + e.slot) (Value.slice (some ⟨b, 0, none⟩) (del1 (idsAt L (e.lv * 64 + e.slot)) id).length cap)) bs bm turn)) :: (bm, .obj (mapO (Value.int .i64) (mDel l id) c)) :: ((b, .cells 3 (cap * 1) (((del1 (idsAt L (e.lv * 64 + e.slot)) id)).map (Value.int .i64))) :: ((XS.set (e.lv * 64 + e.slot) []).flatten ++ H))) Tryz.results119 rfl (.nil _) zH ?_
  exact ⟨b, cap, rfl, by omega, hmax, by rw [if_neg q0]⟩
theorem LCalls.sub {P : Program} {w0 : World} {f : FuncId} {args : Array Value} {H : Heap} {R R' : Value → Heap → Prop} (h : LCalls P w0 f args H R) (hr : ∀ v H', R v H' → ∃ H2, HSub H' H2 ∧ R' v H2) : LCalls P w0 f args H R' :=
 fun w hs => (h w hs).mono fun _ _ ⟨v, H', e, r, s⟩ => by
  obtain ⟨H2, h1, h2⟩ := hr _ _ r
  exact ⟨v, H2, e, h2, s.hsub h1⟩
theorem delT_out {L : List Tm} {id : Int} (h : id ∉ L.map (·.id)) : delT L id = L := by
 unfold delT
 rw [List.filter_eq_self]
 exact fun t ht => decide_eq_true (fun e => h (e ▸ List.mem_map_of_mem ht))
def heldB (L : List Tm) (id : Int) : Bool := L.any (fun t => decide (t.id = id))
theorem heldB_iff {L : List Tm} {id : Int} : heldB L id = true ↔ id ∈ L.map (·.id) := by
 unfold heldB
 rw [List.any_eq_true, List.mem_map]
 exact ⟨fun ⟨t, h, e⟩ => ⟨t, h, of_decide_eq_true e⟩, fun ⟨t, h, e⟩ => ⟨t, h, decide_eq_true e⟩⟩
theorem del_L {w0 : World} {H HW : Heap} {bw now turn : Nat} {L : List Tm} {id : Int} (hW : WheelH bw now L turn HW) :
  LCalls Tryz.prog w0 119 #[.pointer (some ⟨bw, 0, none⟩), .int .i64 id] (HW ++ H) (fun v H' => ∃ HW', WheelH bw now (delT L id) turn HW' ∧ v = .bool (heldB L id) ∧ H' = HW' ++ H) := by
 cases hW with
 | @mk bm c sl XS bs l h =>
  by_cases hin : id ∈ L.map (·.id)
  ·obtain ⟨t, ht, rfl⟩ := List.mem_map.1 hin
   obtain ⟨hv, hh⟩ := h.hit ht
   have hs := h.spot t ht
   obtain ⟨v0, X, hsl, hX, hO⟩ := h.own (t.s.lv * 64 + t.s.slot) zO
   obtain ⟨z, hz, hz2, _⟩ := h.busy t.s.lv hs.1
   have hlen := Nat.le_trans (idsAt_len L (t.s.lv * 64 + t.s.slot)) h.len
   have hpos : 0 < (idsAt L (t.s.lv * 64 + t.s.slot)).length := List.length_pos_of_mem (idsAt_mem.2 ⟨t, ht, rfl, rfl⟩)
   have hcell : ∀ (b cap : Nat), (del1 (idsAt L t.key) t.id).length ≤ cap → cap ≤ maxLen → OwnS 3 1 (.slice (some ⟨b, 0, none⟩) (del1 (idsAt L t.key) t.id).length cap) (del1 (idsAt L t.key) t.id).length ((del1 (idsAt L t.key) t.id).map (Value.int .i64)) [(b, .cells 3 (cap * 1) ((del1 (idsAt L t.key) t.id).map (Value.int .i64)))] := fun b cap h1 h2 => .own (by rw [List.length_map, Nat.mul_one]) h1 h2
   refine LCalls.sub (del_at (H := H) h.row h.map hv hh hs hz hz2 hlen hpos hsl hX hO) ?_
   rintro v H' ⟨b, cap, rfl, hcap, hmax, rfl⟩
   refine ⟨_, ?_, _, .mk (bm := bm) (h.del ht (hcell b cap hcap hmax) hz rfl), by rw [heldB_iff.2 hin], rfl⟩
   exact .cons (.here _) (.cons (.here _) (flat_in (B := [_]) (by rw [h.xs]; omega)))
  ·obtain ⟨hv, hh⟩ := h.miss hin
   refine (del_miss (H := XS.flatten ++ H) h.row hv hh).mono ?_
   rintro v H' ⟨rfl, rfl⟩
   refine ⟨_, by rw [delT_out hin]; exact .mk (bm := bm) h, ?_, rfl⟩
   cases hb : heldB L id with
   | false => rfl
   | true => exact absurd (heldB_iff.1 hb) hin
def delsT (L : List Tm) (l : List Int) : List Tm × Nat := l.foldl (fun s id => (delT s.1 id, s.2 + if heldB s.1 id = true then 1 else 0)) (L, 0)
theorem delsT_at {L : List Tm} {l : List Int} {i : Nat} {x : Int} (h : l[i]? = some x) : delsT L (l.take (i + 1)) = (delT (delsT L (l.take i)).1 x, (delsT L (l.take i)).2 + if heldB (delsT L (l.take i)).1 x = true then 1 else 0) := by
 unfold delsT
 rw [takeAt h, List.foldl_append]; rfl
theorem delsT_le (L : List Tm) (l : List Int) : ∀ i, i ≤ l.length → (delsT L (l.take i)).2 ≤ i
 | 0, _ => by simp [delsT]
 | i + 1, h => by
  obtain ⟨x, hx⟩ : ∃ x, l[i]? = some x := ⟨_, List.getElem?_eq_getElem zO⟩
  have := delsT_le L l i zO
  rw [delsT_at hx]
  dsimp only
  split <;> omega
theorem Del_L {w0 : World} {H : Heap} {HW : Heap} {bw now turn cap : Nat} {L : List Tm} {l : List Int} {ad : Option Addr} (hW : WheelH bw now L turn HW) (hn : l.length ≤ 4611686018427387904) (hrow : Holds w0 H ad (l.map (Value.int .i64)))  : LCalls Tryz.prog w0 102 #[.pointer (some ⟨bw, 0, none⟩), .slice ad l.length cap] (HW ++ H) (fun v H' => ∃ HW', WheelH bw now (delsT L l).1 turn HW' ∧ v = .int .i64 ((delsT L l).2 : Int) ∧ H' = HW' ++ H) := by
 refine L_enter (l := [.pointer (some ⟨bw, 0, none⟩), .slice ad l.length cap]) Tryz.func102 rfl Tryz.ntmps102 rfl rfl ?_
 refine W_sr ?_
 refine W_assign rfl rfl ?_
 refine W_nil (W_sr ?_)
 refine W_assign rfl rfl ?_
 refine W_nil (W_seq (W_sr ?_))
 refine W_move rfl rfl ?_
 refine W_len rfl ty24 rfl rfl ?_
 refine W_move rfl rfl ?_
 refine W_nil (W_block ?_)
 refine W_loopC (X := (Nat × Heap)) [(0, _), (8, _), (9, _)] (fun (x : (Nat × Heap)) => [(5, .int .i64 ((delsT L (l.take x.1)).2 : Int)), (10, .int .i64 (x.1 : Int))]) (fun _ => _) (fun (x : (Nat × Heap)) => x.2 ++ H) (fun (x : (Nat × Heap)) => x.1 ≤ l.length ∧ WheelH bw now (delsT L (l.take x.1)).1 turn x.2) (fun (x : (Nat × Heap)) => l.length - x.1) (0, HW) ⟨Nat.zero_le _, hW⟩ (sub_cons rfl (sub_cons rfl (sub_cons rfl (sub_nil _)))) (sub_cons rfl (sub_cons rfl (sub_nil _))) rfl (.refl _) ?_
 rintro ⟨i, HWi⟩ ⟨hi, hWi⟩
 dsimp only at hi hWi ⊢
 simp only [List.cons_append, List.nil_append]
 refine W_sr ?_
 refine W_bin rfl rfl b_lss rfl ?_
 refine W_nil (W_seq ?_)
 refine W_condPS (p := (i : Int) < (l.length : Int)) rfl (by simp) (fun q0 => ?_) (fun q0 => ?_)
 ·skip
  refine W_skip (W_seq ?_)
  refine W_block (W_sr ?_)
  obtain ⟨x, hx⟩ : ∃ x, l[i]? = some x := ⟨_, List.getElem?_eq_getElem zO⟩
  obtain ⟨q0, p0, rfl, hc⟩ := hrow.at (i := i) (v := .int .i64 x) (by rw [List.getElem?_map, hx]; rfl)
  have hat := delsT_at (L := L) hx
  have hle := delsT_le L l i zO
  refine W_indexAddr (j := i) rfl rfl ty24 ty3 rfl zO rfl rfl ?_
  refine W_load (v := .int .i64 x) rfl ty3 rfl (by rw [Nat.mul_one (i)]; exact hc.up zH) rfl ?_
  refine W_assign rfl rfl ?_
  refine W_nil (W_sr ?_)
  refine W_move rfl rfl ?_
  refine W_x (X_ptrNotNil rfl rfl ty133) (fun _ h => by cases h) rfl ?_
  refine W_move rfl rfl ?_
  refine W_gyes rfl rfl ?_
  refine W_move rfl rfl ?_
  refine W_gyes rfl rfl ?_
  refine W_move rfl rfl ?_
  refine W_gyes rfl rfl ?_
  refine W_call (.cons rfl (.cons rfl .nil)) Tryz.call119 rfl (del_L (id := x) hWi) ?_
  rintro v H' ⟨HW', hW', rfl, rfl⟩
  rcases hb : heldB (delsT L (l.take i)).1 x with _ | _
  ·skip
   have hn2 : (delsT L (l.take i)).2 = (delsT L (l.take (i + 1))).2 := by rw [hat, hb]; rfl
   rw [hn2]
   first | refine W_pickt rfl rfl rfl ?_ | refine W_pickf rfl rfl rfl ?_
   refine W_nil ?_
   refine W_condF rfl rfl ?_
   refine W_skip ?_
   refine W_blk ?_
   refine W_region ?_
   refine W_bin rfl rfl (b_add (m := ((i + 1 : Nat) : Int)) (by rw [i64w (by omega)]; omega)) rfl ?_
   refine W_move rfl rfl ?_
   refine W_nil ?_
   refine W_again (i + 1, HW') ⟨by show i + 1 ≤ l.length; omega, by show WheelH bw now (delsT L (l.take (i + 1))).1 turn HW'; rw [hat]; exact hW'⟩ (by show l.length - (i + 1) < l.length - i; omega) (sub_cons rfl (sub_cons rfl (sub_cons rfl (sub_cons rfl (sub_cons rfl (sub_nil _)))))) rfl (.refl _)
  ·skip
   have hn2 : (delsT L (l.take i)).2 + 1 = (delsT L (l.take (i + 1))).2 := by rw [hat, hb]; rfl
   first | refine W_pickt rfl rfl rfl ?_ | refine W_pickf rfl rfl rfl ?_
   refine W_nil ?_
   refine W_condT rfl rfl ?_
   refine W_region ?_
   refine W_move rfl rfl ?_
   refine W_bin rfl rfl (b_add (m := ((delsT L (l.take (i + 1))).2 : Int)) (by rw [i64w (by omega)]; omega)) rfl ?_
   refine W_assign rfl rfl ?_
   refine W_nil ?_
   refine W_blk ?_
   refine W_region ?_
   refine W_bin rfl rfl (b_add (m := ((i + 1 : Nat) : Int)) (by rw [i64w (by omega)]; omega)) rfl ?_
   refine W_move rfl rfl ?_
   refine W_nil ?_
   refine W_again (i + 1, HW') ⟨by show i + 1 ≤ l.length; omega, by show WheelH bw now (delsT L (l.take (i + 1))).1 turn HW'; rw [hat]; exact hW'⟩ (by show l.length - (i + 1) < l.length - i; omega) (sub_cons rfl (sub_cons rfl (sub_cons rfl (sub_cons rfl (sub_cons rfl (sub_nil _)))))) rfl (.refl _)
 ·skip
  refine W_exit rfl ?_
  refine W_sr ?_
  refine W_move rfl rfl ?_
  refine W_assign rfl rfl ?_
  refine W_nil ?_
  refine W_ret1m Tryz.results102 rfl (.nil _) (.refl _) ?_
  obtain rfl : i = l.length := by omega
  rw [List.take_length] at hWi ⊢
  exact ⟨HWi, hWi, rfl, rfl⟩
theorem tickT_inj {x y n : Nat} (hx : x * 8 ^ n < 18446744073709551615 + 8 ^ n) (hy : y * 8 ^ n < 18446744073709551615 + 8 ^ n) (e : tickT x n = tickT y n) : x = y := by
 have key : ∀ {a b : Nat}, a * 8 ^ n < 18446744073709551615 + 8 ^ n → 18446744073709551615 / 8 ^ n < a → ¬ 18446744073709551615 / 8 ^ n < b → 18446744073709551615 = b * 8 ^ n → False := fun {a b} h1 h2 h3 h4 => by
  cases n with
  | zero => simp at h1 h2; omega
  | succ m =>
   rw [Nat.pow_succ, ← Nat.mul_assoc] at h4
   generalize b * 8 ^ m = q at h4
   omega
 have hg : 0 < 8 ^ n := Nat.pow_pos zO
 have cut : ∀ {a : Nat}, a * 8 ^ n < 18446744073709551615 + 8 ^ n → 18446744073709551615 / 8 ^ n < a → a = 18446744073709551615 / 8 ^ n + 1 := fun {a} h1 h2 => by
  have h3 := Nat.div_add_mod 18446744073709551615 (8 ^ n)
  have h4 := Nat.mod_lt 18446744073709551615 hg
  rw [Nat.mul_comm] at h3
  generalize 18446744073709551615 / 8 ^ n = k at *
  generalize 8 ^ n = g at *
  have h5 : a < k + 2 := Nat.lt_of_mul_lt_mul_right (a := g) (by rw [Nat.add_mul]; omega)
  omega
 unfold tickT at e
 by_cases c1 : 18446744073709551615 / 8 ^ n < x <;> by_cases c2 : 18446744073709551615 / 8 ^ n < y
 ·rw [cut hx c1, cut hy c2]
 ·rw [if_pos c1, if_neg c2] at e
  exact (key hx c1 c2 e).elim
 ·rw [if_neg c1, if_pos c2] at e
  exact (key hy c2 c1 e.symm).elim
 ·rw [if_neg c1, if_neg c2] at e
  exact Nat.eq_of_mul_eq_mul_right hg e
theorem filter_or {p q r : Tm → Bool} : ∀ (L : List Tm), (∀ t ∈ L, (r t = true ↔ p t = true ∨ q t = true) ∧ ¬ (p t = true ∧ q t = true)) → (L.filter p ++ L.filter q).Perm (L.filter r)
 | [], _ => .nil
 | t :: L, h => by
  have ih := filter_or L (fun u hu => h u (List.mem_cons_of_mem _ hu))
  obtain ⟨h1, h2⟩ := h t List.mem_cons_self
  cases hp : p t <;> cases hq : q t
  ·rw [List.filter_cons_of_neg (by simp [hp]), List.filter_cons_of_neg (by simp [hq]), List.filter_cons_of_neg (by rw [h1, hp, hq]; simp)]; exact ih
  ·rw [List.filter_cons_of_neg (by simp [hp]), List.filter_cons_of_pos hq, List.filter_cons_of_pos (h1.2 (.inr hq))]
   exact List.perm_middle.trans (ih.cons _)
  ·rw [List.filter_cons_of_pos hp, List.filter_cons_of_neg (by simp [hq]), List.filter_cons_of_pos (h1.2 (.inl hp)), List.cons_append]
   exact ih.cons _
  ·exact absurd ⟨hp, hq⟩ h2
def duL (now at_ : Nat) (bs : List Nat) (L : List Tm) : Nat → List Int
 | 0 => []
 | n + 1 => match bs[n]? with
  | none => duL now at_ bs L n
  | some z => match aroundN z ((fromT now n : Nat) : Int) with
   | none => duL now at_ bs L n
   | some s => if timeT now n s = at_ then duL now at_ bs L n ++ idsAt L (n * 64 + s) else duL now at_ bs L n
theorem du_skip {now at_ n z : Nat} {bs : List Nat} {L : List Tm} (hz : bs[n]? = some z) (ha : aroundN z ((fromT now n : Nat) : Int) = none) : duL now at_ bs L (n + 1) = duL now at_ bs L n := by
 show (match bs[n]? with | none => _ | some z => _) = _
 rw [hz]; dsimp only; rw [ha]
theorem du_some {now at_ n z s : Nat} {bs : List Nat} {L : List Tm} (hz : bs[n]? = some z) (ha : aroundN z ((fromT now n : Nat) : Int) = some s) : duL now at_ bs L (n + 1) = if timeT now n s = at_ then duL now at_ bs L n ++ idsAt L (n * 64 + s) else duL now at_ bs L n := by
 show (match bs[n]? with | none => _ | some z => _) = _
 rw [hz]; dsimp only; rw [ha]
section
variable {now turn c at_ : Nat} {L : List Tm} {sl : List Value} {XS : List Heap} {bs : List Nat} {l : Ents Int}
theorem WhIs.dueOf (h : WhIs now L sl XS bs l c turn) (hnow : now ≤ 18446744073709551615) {u : Tm} (hu : u ∈ L) : u.s.due = timeT now u.s.lv u.s.slot := by
 obtain ⟨num, m1, m2, m3, m4, _⟩ := h.time u hu
 rw [m2, time_is hnow m3 m4 m1.symm]
theorem WhIs.sameSlot (h : WhIs now L sl XS bs l c turn) {t u : Tm} (ht : t ∈ L) (hu : u ∈ L) (el : t.s.lv = u.s.lv) (ed : t.s.due = u.s.due) : t.s.slot = u.s.slot := by
 obtain ⟨n1, a1, a2, a3, a4, a5⟩ := h.time t ht
 obtain ⟨n2, b1, b2, b3, b4, b5⟩ := h.time u hu
 rw [a2, b2, el] at ed
 rw [el] at a5
 rw [a1, b1, tickT_inj a5 b5 ed]
theorem WhIs.around (h : WhIs now L sl XS bs l c turn) {n z s : Nat} (hn : n < 8) (hnow : now ≤ 18446744073709551615) (hz : bs[n]? = some z) (ha : aroundN z ((fromT now n : Nat) : Int) = some s) :
  ∃ t ∈ L, t.s.lv = n ∧ t.s.slot = s ∧ t.s.due = timeT now n s := by
 obtain ⟨z', hz', _, hz3⟩ := h.busy n hn
 obtain rfl : z = z' := Option.some.inj (hz.symm.trans hz')
 have hx : now / 8 ^ n ≤ 18446744073709551615 := Nat.le_trans (Nat.div_le_self _ _) hnow
 obtain ⟨g1, g2, _⟩ := around_least hx ha
 obtain ⟨id, hid⟩ : ∃ id, id ∈ idsAt L (n * 64 + s) := List.exists_mem_of_ne_nil _ ((hz3 s g1).1 g2)
 obtain ⟨t, ht, hk, _⟩ := idsAt_mem.1 hid
 have hsp := h.spot t ht
 have hk2 : t.s.lv * 64 + t.s.slot = n * 64 + s := hk
 have hlv : t.s.lv = n := by omega
 have hsl : t.s.slot = s := by omega
 exact ⟨t, ht, hlv, hsl, by rw [h.dueOf hnow ht, hlv, hsl]⟩
theorem WhIs.noneAt (h : WhIs now L sl XS bs l c turn) {n z : Nat} (hn : n < 8) (hz : bs[n]? = some z) (ha : aroundN z ((fromT now n : Nat) : Int) = none) : ∀ t ∈ L, t.s.lv ≠ n := fun t ht e => by
 obtain ⟨z', hz', _, hz3⟩ := h.busy n hn
 obtain rfl : z = z' := Option.some.inj (hz.symm.trans hz')
 subst e
 have h1 := around_none ha t.s.slot (h.spot t ht).2
 have h2 := (hz3 t.s.slot (h.spot t ht).2).2 (fun e => by have := idsAt_mem.2 ⟨t, ht, rfl, rfl⟩; rw [show t.key = t.s.lv * 64 + t.s.slot from rfl, e] at this; cases this)
 rw [h1] at h2; cases h2
theorem WhIs.leastAt (h : WhIs now L sl XS bs l c turn) {n z s : Nat} (hn : n < 8) (hnow : now ≤ 18446744073709551615) (hz : bs[n]? = some z) (ha : aroundN z ((fromT now n : Nat) : Int) = some s) : ∀ u ∈ L, u.s.lv = n → timeT now n s ≤ u.s.due := fun u hu e => by
 obtain ⟨z', hz', _, hz3⟩ := h.busy n hn
 obtain rfl : z = z' := Option.some.inj (hz.symm.trans hz')
 have hx : now / 8 ^ n ≤ 18446744073709551615 := Nat.le_trans (Nat.div_le_self _ _) hnow
 obtain ⟨g1, g2, g3⟩ := around_least hx ha
 rw [h.dueOf hnow hu, e]
 have hm := g3 u.s.slot (h.spot u hu).2 ((e ▸ hz3 u.s.slot (h.spot u hu).2).2 (fun e2 => by have := idsAt_mem.2 ⟨u, hu, rfl, rfl⟩; rw [show u.key = u.s.lv * 64 + u.s.slot from rfl, e2] at this; cases this))
 unfold timeT
 have hmo := tickT_mono (n := n) (Nat.add_le_add_left hm (now / 8 ^ n))
 have hle := tickT_le (now / 8 ^ n + moreT (now / 8 ^ n) s) n
 split <;> split <;> omega
theorem du_perm (h : WhIs now L sl XS bs l c turn) (hnow : now ≤ 18446744073709551615) (hat : ∀ t ∈ L, at_ ≤ t.s.due) : ∀ n, n ≤ 8 → (duL now at_ bs L n).Perm ((L.filter (fun t => decide (t.s.lv < n) && decide (t.s.due = at_))).map (·.id))
 | 0, _ => by
  rw [List.filter_eq_nil_iff.2 (fun t _ => by simp)]
  exact .nil
 | n + 1, hn => by
  have ih := du_perm h hnow hat n zO
  obtain ⟨z, hz, _, _⟩ := h.busy n zO
  have same : (∀ t ∈ L, t.s.lv = n → t.s.due ≠ at_) → L.filter (fun t => decide (t.s.lv < n + 1) && decide (t.s.due = at_)) = L.filter (fun t => decide (t.s.lv < n) && decide (t.s.due = at_)) := fun hno => by
   refine List.filter_congr fun t ht => ?_
   have := hno t ht
   by_cases e : t.s.lv = n
   ·rw [decide_eq_false (this e), Bool.and_false, Bool.and_false]
   ·rw [show decide (t.s.lv < n + 1) = decide (t.s.lv < n) from decide_eq_decide.2 (by omega)]
  cases ha : aroundN z ((fromT now n : Nat) : Int) with
  | none =>
   rw [du_skip hz ha, same (fun t ht e => absurd e (h.noneAt (by omega) hz ha t ht))]
   exact ih
  | some s =>
   rw [du_some hz ha]
   obtain ⟨t0, ht0, e1, e2, e3⟩ := h.around zO hnow hz ha
   by_cases ct : timeT now n s = at_
   ·rw [if_pos ct]
    have hk : idsAt L (n * 64 + s) = (L.filter (fun t => decide (t.s.lv = n) && decide (t.s.due = at_))).map (·.id) := by
     unfold idsAt
     congr 1
     refine List.filter_congr fun t ht => ?_
     have hsp := h.spot t ht
     have hs64 := (h.spot t0 ht0).2
     rw [← Bool.decide_and]
     refine decide_eq_decide.2 ⟨fun hk => ?_, fun ⟨h1, h2⟩ => ?_⟩
     ·have hk2 : t.s.lv * 64 + t.s.slot = n * 64 + s := hk
      have l1 : t.s.lv = n := by omega
      have l2 : t.s.slot = s := by omega
      exact ⟨l1, by rw [h.dueOf hnow ht, l1, l2, ct]⟩
     ·have := h.sameSlot ht ht0 (by rw [h1, e1]) (by rw [h2, e3, ct])
      show t.s.lv * 64 + t.s.slot = _
      rw [h1, this, e2]
    rw [hk]
    refine (ih.append_right _).trans ?_
    rw [← List.map_append]
    refine List.Perm.map _ (filter_or L fun t ht => ⟨?_, ?_⟩)
    ·simp only [Bool.and_eq_true, decide_eq_true_eq]; omega
    ·simp only [Bool.and_eq_true, decide_eq_true_eq]; omega
   ·rw [if_neg ct, same (fun t ht e ed => ct ?_)]
    ·exact ih
    ·have l1 := h.leastAt zO hnow hz ha t ht e
     have l2 := hat t0 ht0
     rw [e3] at l2; omega
def dueAt (L : List Tm) (at_ : Nat) : List Tm := L.filter (fun t => decide (t.s.due = at_))
theorem du_all (h : WhIs now L sl XS bs l c turn) (hnow : now ≤ 18446744073709551615) (hat : ∀ t ∈ L, at_ ≤ t.s.due) : (duL now at_ bs L 8).Perm ((dueAt L at_).map (·.id)) := by
 refine (du_perm h hnow hat 8 (Nat.le_refl _)).trans ?_
 unfold dueAt
 rw [List.filter_congr (q := fun t => decide (t.s.due = at_)) fun t ht => by rw [decide_eq_true (h.spot t ht).1, Bool.true_and]]
def tvN (L : List Tm) (id : Int) : Nat := match L.find? (fun t => decide (t.id = id)) with
 | some t => t.turn
 | none => 0
theorem tvN_in (h : (L.map (·.id)).Nodup) {t : Tm} (ht : t ∈ L) : tvN L t.id = t.turn := by
 unfold tvN
 cases hf : L.find? (fun u => decide (u.id = t.id)) with
 | none =>
  have := List.find?_eq_none.1 hf t ht
  exact absurd (decide_eq_true rfl) this
 | some u =>
  have h1 := List.find?_some hf
  obtain rfl : u = t := tm_uniq h (List.mem_of_find?_eq_some hf) ht (of_decide_eq_true h1)
  rfl
theorem WhIs.ent (h : WhIs now L sl XS bs l c turn) (id : Int) : ∃ e : Spot, (mGet l id).getD zEnt = .agg (e.v ++ [Value.int .i64 (((tvN L id) : Nat) : Int)]).toArray := by
 by_cases hin : id ∈ L.map (·.id)
 ·obtain ⟨t, ht, rfl⟩ := List.mem_map.1 hin
  exact ⟨t.s, by rw [(h.hit ht).1, tvN_in h.nodup ht]⟩
 ·refine ⟨zSpot, ?_⟩
  rw [(h.miss hin).1]
  have : tvN L id = 0 := by
   unfold tvN
   cases hf : L.find? (fun u => decide (u.id = id)) with
   | none => rfl
   | some u =>
    have h1 := List.find?_some hf
    have h2 : u.id = id := of_decide_eq_true h1
    exact absurd (h2 ▸ List.mem_map_of_mem (List.mem_of_find?_eq_some hf)) hin
  rw [this]; rfl
end
theorem asc_unique {K : Type} {τ : K → Nat} : ∀ {a b : List K}, a.Perm b → a.Pairwise (fun x y => τ x < τ y) → b.Pairwise (fun x y => τ x < τ y) → a = b
 | [], b, hp, _, _ => (List.Perm.nil_eq hp)
 | x :: a, b, hp, ha, hb => by
  cases b with
  | nil => exact absurd hp.length_eq (by simp)
  | cons y b =>
   have ha' := List.pairwise_cons.1 ha
   have hb' := List.pairwise_cons.1 hb
   have hxy : x = y := by
    rcases List.mem_cons.1 (hp.mem_iff.1 List.mem_cons_self) with h | h
    ·exact h
    ·rcases List.mem_cons.1 (hp.mem_iff.2 List.mem_cons_self) with h' | h'
     ·exact h'.symm
     ·have := hb'.1 x h; have := ha'.1 y h'; omega
   subst hxy
   rw [asc_unique (List.Perm.cons_inv hp) ha'.2 hb'.2]
theorem asc_inj {K : Type} {m : List K} {τ : K → Nat} (h : m.Pairwise (fun x y => τ x < τ y)) {x y : K} (hx : x ∈ m) (hy : y ∈ m) (e : τ x = τ y) : x = y := by
 obtain ⟨i, hi, rfl⟩ := List.getElem_of_mem hx
 obtain ⟨j, hj, rfl⟩ := List.getElem_of_mem hy
 have hp := List.pairwise_iff_getElem.1 h
 rcases Nat.lt_trichotomy i j with hij | rfl | hij
 ·have := hp i j hi hj hij; omega
 ·rfl
 ·have := hp j i hj hi hij; omega
open Go.Proofs in
theorem sorted_is {K : Type} {m d : List K} {τ : K → Nat} (hp : d.Perm m) (hn : m.Nodup) (h : m.Pairwise (fun x y => τ x < τ y))
  (hs : ∀ (i j : Nat) x y, i < j → d[i]? = some x → d[j]? = some y → ltOf (fun x y => Lib.compareInt (τ x : Int) (τ y : Int)) y x = false) : d = m := by
 refine asc_unique hp (List.pairwise_iff_getElem.2 fun i j hi hj hij => ?_) h
 have h1 := lt_key _ (hs i j _ _ hij (List.getElem?_eq_getElem hi) (List.getElem?_eq_getElem hj))
 have mi : d[i] ∈ m := hp.mem_iff.1 (List.getElem_mem hi)
 have mj : d[j] ∈ m := hp.mem_iff.1 (List.getElem_mem hj)
 have hne : τ d[i] ≠ τ d[j] := fun e => by
  have := asc_inj h mi mj e
  exact (List.pairwise_iff_getElem.1 (hp.nodup_iff.2 hn)) i j hi hj hij this
 omega
theorem WhIs.dueAsc {now turn c : Nat} {L : List Tm} {sl : List Value} {XS : List Heap} {bs : List Nat} {l : Ents Int} (h : WhIs now L sl XS bs l c turn) (at_ : Nat) : ((dueAt L at_).map (·.id)).Nodup ∧ ((dueAt L at_).map (·.id)).Pairwise (fun x y => tvN L x < tvN L y) := by
 refine ⟨h.nodup.sublist (List.Sublist.map _ List.filter_sublist), ?_⟩
 rw [List.pairwise_map]
 have h1 : (dueAt L at_).Pairwise (fun a b => a.turn < b.turn) := h.turns.sublist List.filter_sublist
 refine (List.pairwise_iff_getElem.2 fun i j hi hj hij => ?_)
 have h2 := List.pairwise_iff_getElem.1 h1 i j hi hj hij
 rw [tvN_in h.nodup (List.mem_filter.1 (List.getElem_mem hi)).1, tvN_in h.nodup (List.mem_filter.1 (List.getElem_mem hj)).1]
 exact h2
open Go.Proofs
theorem cmp_reads {now turn c bw bm b2 : Nat} {L : List Tm} {sl : List Value} {XS : List Heap} {bs : List Nat} {l : Ents Int} (h : WhIs now L sl XS bs l c turn) {w0 : World} {H : Heap} {C : World → Prop} (hC : ∀ w, C w → C w.drew) (hCS : ∀ w, C w → Sat w0 ((b2, .cells 133 1 [.pointer (some ⟨bw, 0, none⟩)]) :: (bw, .cells 167 523 (whRow now sl bs bm turn)) :: (bm, .obj (mapO (Value.int .i64) l c)) :: H) w) (x y : Int) :
  ∀ w, C w → CallsIn Fence.wide 0 Tryz.prog 129 [(Value.int .i64) x, (Value.int .i64) y, .pointer (some ⟨b2, 0, none⟩)].toArray w fun e w' => e = .returned (.int .i64 (Lib.compareInt (tvN L x : Int) (tvN L y : Int))) ∧ C w' := by
 obtain ⟨ex, hx⟩ := h.ent x
 obtain ⟨ey, hy⟩ := h.ent y
 refine R_enter Tryz.func129 rfl Tryz.ntmps129 rfl rfl rfl zk zK hC ?_
 refine WR_x (Ex.mono hCS (X_load (v := .pointer (some ⟨bw, 0, none⟩)) rfl ty133 rfl (Cell.own (b := b2) zM rfl))) rfl ?_
 refine WR_x (Ex.mono hCS (X_nilCheck rfl)) rfl ?_
 refine WR_x (Ex.mono hCS (X_fieldAddr rfl fld167_3 zd)) rfl ?_
 refine WR_x (Ex.mono hCS (X_load (v := .map (some bm)) rfl ty161 rfl (Cell.own (b := bw) zM (wh_map h.row)))) rfl ?_
 refine WR_x (Ex.mono hCS (X_move rfl)) rfl ?_
 refine WR_x (Ex.mono hCS (X_lookup (b := bm) (a := x) (zE := zEnt) rfl rfl keyI ty161 zEz zM)) rfl ?_
 simp only [Bool.false_eq_true, if_false]
 rw [hx]
 refine WR_x (Ex.mono hCS (X_field rfl fld169_1 rfl)) rfl ?_
 refine WR_x (Ex.mono hCS (X_load (v := .pointer (some ⟨bw, 0, none⟩)) rfl ty133 rfl (Cell.own (b := b2) zM rfl))) rfl ?_
 refine WR_x (Ex.mono hCS (X_nilCheck rfl)) rfl ?_
 refine WR_x (Ex.mono hCS (X_fieldAddr rfl fld167_3 zd)) rfl ?_
 refine WR_x (Ex.mono hCS (X_load (v := .map (some bm)) rfl ty161 rfl (Cell.own (b := bw) zM (wh_map h.row)))) rfl ?_
 refine WR_x (Ex.mono hCS (X_move rfl)) rfl ?_
 refine WR_x (Ex.mono hCS (X_lookup (b := bm) (a := y) (zE := zEnt) rfl rfl keyI ty161 zEz zM)) rfl ?_
 simp only [Bool.false_eq_true, if_false]
 rw [hy]
 refine WR_x (Ex.mono hCS (X_field rfl fld169_1 rfl)) rfl ?_
 refine WR_call (.cons rfl (.cons rfl .nil)) Tryz.call130 rfl (fun w _ => Tryz.cmp_Compare_int (tvN L x : Int) (tvN L y : Int) w) ?_
 refine WR_x (Ex.mono hCS (X_assign rfl)) rfl ?_
 exact WR_ret Tryz.results129 rfl
open Go.Proofs in
theorem sort_L {now turn c bw bm b2 : Nat} {L : List Tm} {sl : List Value} {XS : List Heap} {bs : List Nat} {l : Ents Int} (h : WhIs now L sl XS bs l c turn) {w0 : World} {H : Heap} {b tot cap : Nat} {d : List Int} (hd : d.length < 4611686018427387904) :
  LCalls Tryz.prog w0 128 #[.slice (some ⟨b, 0, none⟩) d.length cap, .func (.func 129) #[] #[.pointer (some ⟨b2, 0, none⟩)]] ((b, .cells 3 tot (d.map (Value.int .i64))) :: (b2, .cells 133 1 [.pointer (some ⟨bw, 0, none⟩)]) :: (bw, .cells 167 523 (whRow now sl bs bm turn)) :: (bm, .obj (mapO (Value.int .i64) l c)) :: H)
   (fun v H' => v = .tuple #[] ∧ ∃ d' : List Int, d'.Perm d ∧ (∀ (i j : Nat) x y, i < j → d'[i]? = some x → d'[j]? = some y → ltOf (fun x y => Lib.compareInt (tvN L x : Int) (tvN L y : Int)) y x = false) ∧ H' = (b, .cells 3 tot (d'.map (Value.int .i64))) :: (b2, .cells 133 1 [.pointer (some ⟨bw, 0, none⟩)]) :: (bw, .cells 167 523 (whRow now sl bs bm turn)) :: (bm, .obj (mapO (Value.int .i64) l c)) :: H) :=
 L_sort fun w hs => by
  have hlt : b < w.heap.size := (hs.own _ List.mem_cons_self).2.lt
  have := Tryz.slices_SortFunc (Value.int .i64) (fun _ => rfl) (fun x y => Lib.compareInt (tvN L x : Int) (tvN L y : Int)) (swo_key (fun x => (tvN L x : Int))) 129 #[.pointer (some ⟨b2, 0, none⟩)] b 0 cap d.toArray w Tryz.call129 (Go.Proofs.CmpReads.lays fun n os dk hdk x y => by
   have hsz : dk.size = d.length := by rw [hdk]; simp
   have hS : Sat w0 ((b, .cells 3 tot (dk.toList.map (Value.int .i64))) :: (b2, .cells 133 1 [.pointer (some ⟨bw, 0, none⟩)]) :: (bw, .cells 167 523 (whRow now sl bs bm turn)) :: (bm, .obj (mapO (Value.int .i64) l c)) :: H) (sortWorld (Value.int .i64) w b 0 n dk os) := sat_sortWorld hs hsz
   have h := cmp_reads (C := fun w' => ∃ q, w' = (sortWorld (Value.int .i64) w b 0 n dk os).drewN q) h (fun w' ⟨q, e⟩ => ⟨q + 1, by rw [e]; rfl⟩) (fun w' ⟨q, e⟩ => by rw [e]; exact (hS.drewN q).drop) x y _ ⟨0, rfl⟩
   exact callsIn_wide.1 h) (holds_row hs) hlt (by simpa using hd)
  simpa using this
theorem du_len {now at_ : Nat} {bs : List Nat} {L : List Tm} : ∀ n, (duL now at_ bs L n).length ≤ n * L.length
 | 0 => Nat.zero_le _
 | n + 1 => by
  have ih := du_len (now := now) (at_ := at_) (bs := bs) (L := L) n
  rw [Nat.add_mul]
  unfold duL
  split
  ·omega
  ·split
   ·omega
   ·split
    ·rw [List.length_append]
     rename_i s _ _
     have := idsAt_len L (n * 64 + s)
     omega
    ·omega
theorem OwnS.holds {w0 : World} {e : TypeId} {s : Nat} {ad : Option Addr} {n cap : Nat} {xs : List Value} {HB H : Heap} (h : OwnS e s (.slice ad n cap) n xs HB) (hs : ∀ p ∈ HB, p ∈ H) : Holds w0 H ad xs := by
 generalize hv : Value.slice ad n cap = v at h
 cases h with
 | nil => exact Holds.nil
 | own _ _ _ =>
  obtain ⟨rfl, _⟩ : ad = _ ∧ True := by simp at hv; exact ⟨hv.1, trivial⟩
  exact Holds.own (hs _ List.mem_cons_self)
theorem due_at {w0 : World} {H : Heap} {now turn c bw bm at_ : Nat} {L : List Tm} {sl : List Value} {XS : List Heap} {bs : List Nat} {l : Ents Int} (h : WhIs now L sl XS bs l c turn) (hnow : now ≤ 18446744073709551615) (hbs : ∀ z ∈ bs, z < 18446744073709551616) (hpos : 0 < (duL now at_ bs L 8).length) (hT : Tab w0) : LCalls Tryz.prog w0 110 #[.pointer (some ⟨bw, 0, none⟩), .int .u64 ((at_ : Nat) : Int)] ((bw, .cells 167 523 (whRow now sl bs bm turn)) :: (bm, .obj (mapO (Value.int .i64) l c)) :: (XS.flatten ++ H)) (fun v H' => ∃ (b cap : Nat) (d' : List Int), v = .slice (some ⟨b, 0, none⟩) d'.length cap ∧ d'.length ≤ cap ∧ cap ≤ maxLen ∧ d'.Perm (duL now at_ bs L 8) ∧ (∀ (i j : Nat) x y, i < j → d'[i]? = some x → d'[j]? = some y → ltOf (fun x y => Lib.compareInt (tvN L x : Int) (tvN L y : Int)) y x = false) ∧ H' = (b, .cells 3 (cap * 1) ((d').map (Value.int .i64))) :: (bw, .cells 167 523 (whRow now sl bs bm turn)) :: (bm, .obj (mapO (Value.int .i64) l c)) :: (XS.flatten ++ H)) := by
 have hlen0 := h.len
 have hdl0 := du_len (now := now) (at_ := at_) (bs := bs) (L := L) 8
 refine L_enter (l := [.pointer (some ⟨bw, 0, none⟩), .int .u64 ((at_ : Nat) : Int)]) Tryz.func110 rfl Tryz.ntmps110 rfl rfl ?_
 refine W_sr ?_
 refine W_box (l := [.pointer (some ⟨bw, 0, none⟩)]) rfl rfl rfl (fun b2 => ?_)
 refine W_box (l := [.int .u64 (at_ : Int)]) rfl rfl rfl (fun b3 => ?_)
 refine W_assign rfl rfl ?_
 refine W_nil (W_sr ?_)
 refine W_alloc (l := [.slice none 0 0]) ty24 rfl rfl (fun b5 => ?_)
 refine W_nil (W_seq (W_sr ?_))
 refine W_load (v := .pointer (some ⟨bw, 0, none⟩)) rfl ty133 rfl (Cell.own (b := b2) zM rfl) rfl ?_
 refine W_call (.cons rfl .nil) Tryz.call127 rfl (near_L (bw := bw)) ?_
 rintro v H' ⟨b1, rfl, rfl⟩
 refine W_nil (W_block ?_)
 refine W_rangeFunc rfl Tryz.call140 ?_
 intro lp D r hst hpd hps hasg hbody hA
 have hr := loop_ready hst hpd
 show LCalls _ _ _ #[_, _] _ _
 refine ((near_iter (b1 := b1) (bw := bw) (bm := bm) (now := now) (turn := turn) (sl := sl) (bs := bs) (H := (lp, .obj (.loop r)) :: (D, .obj (.deferred (some []))) :: (b5, .cells 24 1 [.slice none 0 0]) :: (b3, .cells 22 1 [.int .u64 (at_ : Int)]) :: (b2, .cells 133 1 [.pointer (some ⟨bw, 0, none⟩)]) :: ([] ++ ((bm, .obj (mapO (Value.int .i64) l c)) :: (XS.flatten ++ H)))) hT h.row hnow hbs (fun n Hi => ∃ v X, OwnS 3 1 v (duL now at_ bs L n).length ((duL now at_ bs L n).map (Value.int .i64)) X ∧ Hi = (lp, .obj (.loop r)) :: (D, .obj (.deferred (some []))) :: (b5, .cells 24 1 [v]) :: (b3, .cells 22 1 [.int .u64 (at_ : Int)]) :: (b2, .cells 133 1 [.pointer (some ⟨bw, 0, none⟩)]) :: (X ++ ((bm, .obj (mapO (Value.int .i64) l c)) :: (XS.flatten ++ H)))) (fun n z Hi _ hz ha hJ => by obtain ⟨v, X, h1, h2⟩ := hJ; exact ⟨v, X, by rw [du_skip hz ha]; exact h1, h2⟩) ?_ ⟨_, [], OwnS.nil, rfl⟩).hsub (show HSub _ ((b1, .cells 133 1 [.pointer (some ⟨bw, 0, none⟩)]) :: (bw, .cells 167 523 (whRow now sl bs bm turn)) :: (lp, .obj (.loop r)) :: (D, .obj (.deferred (some []))) :: (b5, .cells 24 1 [.slice none 0 0]) :: (b3, .cells 22 1 [.int .u64 (at_ : Int)]) :: (b2, .cells 133 1 [.pointer (some ⟨bw, 0, none⟩)]) :: ((bm, .obj (mapO (Value.int .i64) l c)) :: (XS.flatten ++ H))) from zH)).mono ?_
 ·intro n s z Hi hn hz ha hJ
  obtain ⟨v, X, hO, rfl⟩ := hJ
  obtain ⟨t, ht⟩ : ∃ t, t = timeT now n s := ⟨_, rfl⟩
  rw [← ht]
  have hs64 := (aroundN_is ha).1
  have hstep := du_some (now := now) (at_ := at_) (L := L) hz ha
  rw [← ht] at hstep
  refine round_intro hst hpd hA hps rfl hasg rfl rfl rfl zT ?_
  refine W_sr ?_
  refine W_alloc (l := zSpot.v) ty32 rfl rfl (fun b6 => ?_)
  refine W_storeA (l' := [.int .i64 (n : Int), .int .i64 (s : Int), .int .u64 0, .int .u64 0]) rfl rfl ty32 rfl rfl (b := b6) zM (by exact Nat.le_refl 4) rfl zU ?_
  refine W_nil ?_
  refine W_region ?_
  refine W_assign rfl rfl ?_
  refine W_nil ?_
  refine W_begin hst hpd zT hbody ?_
  refine W_block (W_sr ?_)
  refine W_move rfl rfl ?_
  refine W_load (v := .int .u64 (at_ : Int)) rfl ty22 rfl (Cell.own (b := b3) zM rfl) rfl ?_
  refine W_bin rfl rfl b_eql rfl ?_
  refine W_nil ?_
  refine W_condPS (p := t = at_) rfl (by rw [decide_eq_true_eq]; exact Int.ofNat_inj) (fun q0 => ?_) (fun q0 => ?_)
  ·skip
   obtain ⟨vs, Xs, hsl, hXs, hOs⟩ := h.own (n * 64 + s) zO
   obtain ⟨ads, caps, rfl, _, _⟩ := hOs.shape
   have hlen := h.len
   have hil := idsAt_len L (n * 64 + s)
   have hdl := du_len (now := now) (at_ := at_) (bs := bs) (L := L) n
   have hn256 : n * L.length ≤ 8 * 256 := Nat.mul_le_mul zO hlen
   have hmem : ∀ p ∈ Xs, p ∈ XS.flatten := fun p hp => List.mem_flatten.2 ⟨Xs, List.mem_of_getElem? hXs, hp⟩
   refine Rd.W_anyS [(b5, .cells 24 1 [v]), (b2, .cells 133 1 [.pointer (some ⟨bw, 0, none⟩)]), (b6, .cells 32 4 [.int .i64 (n : Int), .int .i64 (s : Int), .int .u64 0, .int .u64 0]), (bw, .cells 167 523 (whRow now sl bs bm turn))] 12 zk ?_
   refine Rd.WS_take 0 (l' := #[true, false, false, false, false, false, false, false, false, false, false, false, false]) rfl rfl zK zK zK zK zK rfl zK (X_load (v := v) rfl ty24 rfl (Cell.own (b := b5) zM rfl)) rfl ?_
   refine Rd.WS_take 1 (l' := #[true, true, false, false, false, false, false, false, false, false, false, false, false]) rfl rfl zK zK zK zK zK rfl zK (X_load (v := .pointer (some ⟨bw, 0, none⟩)) rfl ty133 rfl (Cell.own (b := b2) zM rfl)) rfl ?_
   refine Rd.WS_take 2 (l' := #[true, true, true, false, false, false, false, false, false, false, false, false, false]) rfl rfl zK zK zK zK zK rfl zK (X_fieldAddr rfl fld32_0 zd) rfl ?_
   refine Rd.WS_take 3 (l' := #[true, true, true, true, false, false, false, false, false, false, false, false, false]) rfl rfl zK zK zK zK zK rfl zK (X_load (v := .int .i64 (n : Int)) rfl ty3 rfl (Cell.own (b := b6) zM rfl)) rfl ?_
   refine Rd.WS_take 4 (l' := #[true, true, true, true, true, false, false, false, false, false, false, false, false]) rfl rfl zK zK zK zK zK rfl zK (X_fieldAddr rfl fld32_1 zd) rfl ?_
   refine Rd.WS_take 5 (l' := #[true, true, true, true, true, true, false, false, false, false, false, false, false]) rfl rfl zK zK zK zK zK rfl zK (X_load (v := .int .i64 (s : Int)) rfl ty3 rfl (Cell.own (b := b6) zM rfl)) rfl ?_
   refine Rd.WS_take 6 (l' := #[true, true, true, true, true, true, true, false, false, false, false, false, false]) rfl rfl zK zK zK zK zK rfl zK (X_nilCheck rfl) rfl ?_
   refine Rd.WS_take 7 (l' := #[true, true, true, true, true, true, true, true, false, false, false, false, false]) rfl rfl zK zK zK zK zK rfl zK (X_fieldAddr rfl fld167_1 zd) rfl ?_
   refine Rd.WS_take 8 (l' := #[true, true, true, true, true, true, true, true, true, false, false, false, false]) rfl rfl zK zK zK zK zK rfl zK (X_indexAddrA (j := n) rfl rfl ty163 ty162 rfl hn (at_ := 1 + n * 64) zO) rfl ?_
   refine Rd.WS_take 9 (l' := #[true, true, true, true, true, true, true, true, true, true, false, false, false]) rfl rfl zK zK zK zK zK rfl zK (X_indexAddrA (j := s) rfl rfl ty162 ty24 rfl hs64 (at_ := 1 + (n * 64 + s)) zO) rfl ?_
   refine Rd.WS_take 10 (l' := #[true, true, true, true, true, true, true, true, true, true, true, false, false]) rfl rfl zK zK zK zK zK rfl zK (X_load (v := .slice ads (idsAt L (n * 64 + s)).length caps) rfl ty24 rfl (Cell.own (b := bw) zM (wh_sl h.row hsl))) rfl ?_
   refine Rd.WS_one 11 (l' := #[true, true, true, true, true, true, true, true, true, true, true, true, false]) zH rfl zK rfl zK ?_
   refine W_append (news := (idsAt L (n * 64 + s)).map (Value.int .i64)) (m := (idsAt L (n * 64 + s)).length) (HB := X) (H0 := (lp, .obj (.loop (Loop.at r .busy none))) :: (b6, .cells 32 4 [.int .i64 (n : Int), .int .i64 (s : Int), .int .u64 0, .int .u64 0]) :: (b1, .cells 133 1 [.pointer (some ⟨bw, 0, none⟩)]) :: (bw, .cells 167 523 (whRow now sl bs bm turn)) :: (D, .obj (.deferred (some []))) :: (b5, .cells 24 1 [v]) :: (b3, .cells 22 1 [.int .u64 (at_ : Int)]) :: (b2, .cells 133 1 [.pointer (some ⟨bw, 0, none⟩)]) :: ((bm, .obj (mapO (Value.int .i64) l c)) :: (XS.flatten ++ H))) rfl rfl ty24 ty3 rfl (by decide) hO (by rw [List.length_map, Nat.mul_one]) (OwnS.holds hOs (fun p hp => (by repeat (first | exact List.mem_append_left _ (hmem p hp) | exact List.mem_cons_self | apply List.mem_cons_of_mem | apply List.mem_append_right)))) (by rw [List.all_eq_true]; intro u hu; obtain ⟨q, _, rfl⟩ := List.mem_map.1 hu; rfl) (by simp only [maxLen]; omega) (by omega) zH rfl (fun v' X' hO' => ?_)
   refine W_nil ?_
   refine Rd.WS_goal ?_
   refine Rd.WS_last (l' := #[true, true, true, true, true, true, true, true, true, true, true, true, true]) zH zK rfl zK ?_
   have hv1 : v'.oneCell' = true := by obtain ⟨_, _, rfl, _⟩ := hO'.shape; rfl
   refine W_store (l' := [v']) rfl rfl ty24 hv1 rfl (b := b5) zM rfl rfl zU ?_
   refine W_nil ?_
   refine Rd.WC_goal ?_
   refine Rd.WC_done (.nil _) zK ?_
   refine W_blk ?_
   refine W_endround zT ?_
   rw [hr]
   exact ⟨(lp, .obj (.loop r)) :: (D, .obj (.deferred (some []))) :: (b5, .cells 24 1 [v']) :: (b3, .cells 22 1 [.int .u64 (at_ : Int)]) :: (b2, .cells 133 1 [.pointer (some ⟨bw, 0, none⟩)]) :: (X' ++ ((bm, .obj (mapO (Value.int .i64) l c)) :: (XS.flatten ++ H))), zH, rfl, v', X', by rw [hstep, if_pos q0, List.length_append, List.map_append]; exact hO', rfl⟩
  ·skip
   refine W_skip ?_
   refine W_blk ?_
   refine W_endround zT ?_
   rw [hr]
   exact ⟨(lp, .obj (.loop r)) :: (D, .obj (.deferred (some []))) :: (b5, .cells 24 1 [v]) :: (b3, .cells 22 1 [.int .u64 (at_ : Int)]) :: (b2, .cells 133 1 [.pointer (some ⟨bw, 0, none⟩)]) :: (X ++ ((bm, .obj (mapO (Value.int .i64) l c)) :: (XS.flatten ++ H))), zH, rfl, v, X, by rw [hstep, if_neg q0]; exact hO, rfl⟩
 ·intro _ H' hp
  obtain ⟨Hi', hs, v, X, hO, rfl⟩ := hp
  obtain ⟨b, cap, rfl, rfl, hcap, hmax⟩ := OwnS.is hO hpos
  obtain ⟨d, hd⟩ : ∃ d, d = (duL now at_ bs L 8) := ⟨_, rfl⟩
  rw [← hd] at hs hcap ⊢
  have hs2 : HSub H' ((b1, .cells 133 1 [.pointer (some ⟨bw, 0, none⟩)]) :: (bw, .cells 167 523 (whRow now sl bs bm turn)) :: (lp, .obj (.loop r)) :: (D, .obj (.deferred (some []))) :: (b5, .cells 24 1 [.slice (some ⟨b, 0, none⟩) d.length cap]) :: (b3, .cells 22 1 [.int .u64 (at_ : Int)]) :: (b2, .cells 133 1 [.pointer (some ⟨bw, 0, none⟩)]) :: (b, .cells 3 (cap * 1) ((d).map (Value.int .i64))) :: (bm, .obj (mapO (Value.int .i64) l c)) :: (XS.flatten ++ H)) := hs
  refine ⟨.ready, none, (b1, .cells 133 1 [.pointer (some ⟨bw, 0, none⟩)]) :: (bw, .cells 167 523 (whRow now sl bs bm turn)) :: (D, .obj (.deferred (some []))) :: (b5, .cells 24 1 [.slice (some ⟨b, 0, none⟩) d.length cap]) :: (b3, .cells 22 1 [.int .u64 (at_ : Int)]) :: (b2, .cells 133 1 [.pointer (some ⟨bw, 0, none⟩)]) :: (b, .cells 3 (cap * 1) ((d).map (Value.int .i64))) :: (bm, .obj (mapO (Value.int .i64) l c)) :: (XS.flatten ++ H), by rw [hr]; exact hs2.trans zH, by decide, ?_⟩
  show W _ _ _ _ _ _ _ _ _
  refine W_blk ?_
  refine W_sr ?_
  refine W_load (v := .slice (some ⟨b, 0, none⟩) d.length cap) rfl ty24 rfl (Cell.own (b := b5) zM rfl) rfl ?_
  refine W_makeFunc .nil (.cons rfl .nil) rfl ?_
  refine W_call (.cons rfl (.cons rfl .nil)) Tryz.call128 rfl ((sort_L h (bw := bw) (bm := bm) (b2 := b2) (b := b) (tot := cap * 1) (cap := cap) (d := d) (H := (b1, .cells 133 1 [.pointer (some ⟨bw, 0, none⟩)]) :: (D, .obj (.deferred (some []))) :: (b5, .cells 24 1 [.slice (some ⟨b, 0, none⟩) d.length cap]) :: (b3, .cells 22 1 [.int .u64 (at_ : Int)]) :: (XS.flatten ++ H)) (by rw [hd]; omega)).hsub zH) ?_
  rintro v H' ⟨rfl, d', hp, hsrt, rfl⟩
  refine W_nil (W_sr ?_)
  refine W_load (v := .slice (some ⟨b, 0, none⟩) d.length cap) rfl ty24 rfl (Cell.own (b := b5) zM rfl) rfl ?_
  refine W_assign rfl rfl ?_
  refine W_nil ?_
  refine W_ret1m (H2 := (b, .cells 3 (cap * 1) ((d').map (Value.int .i64))) :: (bw, .cells 167 523 (whRow now sl bs bm turn)) :: (bm, .obj (mapO (Value.int .i64) l c)) :: (XS.flatten ++ H)) Tryz.results110 rfl (.cons zT (.nil _)) zH ?_
  exact ⟨b, cap, d', by rw [hp.length_eq], by rw [hp.length_eq]; exact hcap, hmax, hp, hsrt, rfl⟩
def leastT : List Tm → Option Nat
 | [] => none
 | t :: L => match leastT L with
  | none => some t.s.due
  | some a => some (min t.s.due a)
theorem leastT_none : ∀ {L : List Tm}, leastT L = none ↔ L = []
 | [] => ⟨fun _ => rfl, fun _ => rfl⟩
 | t :: L => by
  unfold leastT
  cases leastT L <;> simp
theorem leastT_is : ∀ {L : List Tm} {a : Nat}, leastT L = some a → (∃ t ∈ L, t.s.due = a) ∧ ∀ t ∈ L, a ≤ t.s.due
 | [], a, h => by cases h
 | t :: L, a, h => by
  unfold leastT at h
  cases hl : leastT L with
  | none =>
   rw [hl] at h
   obtain rfl : t.s.due = a := Option.some.inj h
   obtain rfl := leastT_none.1 hl
   exact ⟨⟨t, List.mem_cons_self, rfl⟩, fun u hu => by rw [List.mem_singleton.1 hu]; exact Nat.le_refl _⟩
  | some b =>
   rw [hl] at h
   obtain rfl : min t.s.due b = a := Option.some.inj h
   obtain ⟨⟨u, hu, e⟩, h2⟩ := leastT_is hl
   refine ⟨?_, fun x hx => ?_⟩
   ·by_cases c : t.s.due ≤ b
    ·exact ⟨t, List.mem_cons_self, (Nat.min_eq_left c).symm⟩
    ·exact ⟨u, List.mem_cons_of_mem _ hu, by omega⟩
   ·rcases List.mem_cons.1 hx with rfl | hx
    ·omega
    ·have := h2 x hx; omega
theorem leastT_of {L : List Tm} {a : Nat} (h1 : ∃ t ∈ L, t.s.due = a) (h2 : ∀ t ∈ L, a ≤ t.s.due) : leastT L = some a := by
 obtain ⟨t, ht, rfl⟩ := h1
 cases hl : leastT L with
 | none => rw [leastT_none.1 hl] at ht; cases ht
 | some b =>
  obtain ⟨⟨u, hu, e⟩, h3⟩ := leastT_is hl
  have := h3 t ht
  have := h2 u hu
  rw [show b = t.s.due by omega]
section
variable {now turn c : Nat} {L : List Tm} {sl : List Value} {XS : List Heap} {bs : List Nat} {l : Ents Int}
theorem WhIs.bsOk (h : WhIs now L sl XS bs l c turn) : ∀ z ∈ bs, z < 18446744073709551616 := fun z hz => by
 obtain ⟨n, hn, e⟩ := List.getElem_of_mem hz
 obtain ⟨z', h1, h2, _⟩ := h.busy n (by rw [h.row.bs] at hn; exact hn)
 rw [List.getElem?_eq_getElem hn, e] at h1
 obtain rfl := Option.some.inj h1
 exact h2
theorem WhIs.nxIs (h : WhIs now L sl XS bs l c turn) (hnow : now ≤ 18446744073709551615) : nx now bs 8 = leastT L := by
 rcases nx_least h hnow 8 (Nat.le_refl _) with ⟨h1, h2⟩ | ⟨a, h1, ⟨t, h2, h3, h4⟩, h5⟩
 ·rw [h1]
  cases L with
  | nil => rfl
  | cons t L => have := h2 t List.mem_cons_self; have := (h.spot t List.mem_cons_self).1; omega
 ·rw [h1, leastT_of ⟨t, h2, h4⟩ (fun u hu => h5 u hu (h.spot u hu).1)]
end
theorem WheelH.ids {bw now turn : Nat} {L : List Tm} {HW : Heap} (h : WheelH bw now L turn HW) : (L.map (·.id)).Nodup ∧ (∀ t ∈ L, 0 ≤ t.id ∧ t.id < 256) ∧ L.Pairwise (fun a b => a.turn < b.turn) ∧ L.length ≤ 256 := by
 cases h with
 | mk h => exact ⟨h.nodup, h.range, h.turns, h.len⟩
theorem WheelH.later {bw now turn : Nat} {L : List Tm} {HW : Heap} (h : WheelH bw now L turn HW) (hnow : now < 18446744073709551615) : ∀ t ∈ L, now < t.s.due := by
 cases h with
 | mk h =>
  intro t ht
  obtain ⟨num, _, e, h1, _⟩ := h.time t ht
  rw [e]; exact due_later hnow h1
theorem WheelH.now {bw now turn : Nat} {L : List Tm} {HW : Heap} (h : WheelH bw now L turn HW) : ∃ row HT, HW = (bw, .cells 167 523 row) :: HT ∧ row.length = 523 ∧ row[0]? = some (.int .u64 (now : Int)) ∧
  ∀ n2, now ≤ n2 → (∀ t ∈ L, n2 < t.s.due) → WheelH bw n2 L turn ((bw, .cells 167 523 (row.set 0 (.int .u64 (n2 : Int)))) :: HT) := by
 cases h with
 | mk h => exact ⟨_, _, rfl, wh_len h.row, wh_now, fun n2 h1 h2 => by rw [wh_setNow]; exact .mk (h.later h1 h2)⟩
theorem Next_W {w0 : World} {H HW : Heap} {bw now turn : Nat} {L : List Tm} (hT : Tab w0) (hW : WheelH bw now L turn HW) (hnow : now ≤ 18446744073709551615) :
  LCalls Tryz.prog w0 109 #[.pointer (some ⟨bw, 0, none⟩)] (HW ++ H) (fun v H' => v = .tuple #[.int .u64 (((leastT L).getD 0 : Nat) : Int), .bool (leastT L).isSome] ∧ H' = HW ++ H) := by
 cases hW with
 | @mk bm c sl XS bs l h =>
  have := Next_L (bm := bm) (turn := turn) (H := (bm, .obj (mapO (Value.int .i64) l c)) :: (XS.flatten ++ H)) h.row hnow h.bsOk hT (bw := bw)
  rw [h.nxIs hnow] at this
  exact this
def spotOf (L : List Tm) (id : Int) : Spot := match L.find? (fun t => decide (t.id = id)) with
 | some t => t.s
 | none => zSpot
theorem spotOf_in {L : List Tm} (h : (L.map (·.id)).Nodup) {t : Tm} (ht : t ∈ L) : spotOf L t.id = t.s := by
 unfold spotOf
 cases hf : L.find? (fun u => decide (u.id = t.id)) with
 | none => exact absurd (decide_eq_true rfl) (List.find?_eq_none.1 hf t ht)
 | some u =>
  have h1 := List.find?_some hf
  obtain rfl : u = t := tm_uniq h (List.mem_of_find?_eq_some hf) ht (of_decide_eq_true h1)
  rfl
theorem spotOf_out {L : List Tm} {id : Int} (h : id ∉ L.map (·.id)) : spotOf L id = zSpot := by
 unfold spotOf
 cases hf : L.find? (fun u => decide (u.id = id)) with
 | none => rfl
 | some u =>
  have h1 := List.find?_some hf
  have h2 : u.id = id := of_decide_eq_true h1
  exact absurd (h2 ▸ List.mem_map_of_mem (List.mem_of_find?_eq_some hf)) h
theorem due_W {w0 : World} {H HW : Heap} {bw now turn at_ : Nat} {L : List Tm} (hT : Tab w0) (hW : WheelH bw now L turn HW) (hnow : now ≤ 18446744073709551615) (hat : leastT L = some at_) :
  LCalls Tryz.prog w0 110 #[.pointer (some ⟨bw, 0, none⟩), .int .u64 ((at_ : Nat) : Int)] (HW ++ H) (fun v H' => ∃ XB, OwnS 3 1 v ((dueAt L at_).map (·.id)).length (((dueAt L at_).map (·.id)).map (Value.int .i64)) XB ∧ H' = XB ++ (HW ++ H)) := by
 cases hW with
 | @mk bm c sl XS bs l h =>
  obtain ⟨⟨t, ht, e⟩, h2⟩ := leastT_is hat
  have hperm := du_all h hnow h2
  have hpos : 0 < (duL now at_ bs L 8).length := by
   rw [hperm.length_eq]
   exact List.length_pos_of_mem (List.mem_map_of_mem (List.mem_filter.2 ⟨ht, decide_eq_true e⟩))
  refine (due_at (bm := bm) (H := H) h hnow h.bsOk hpos hT).mono ?_
  rintro v H' ⟨b, cap, d', rfl, hcap, hmax, hp, hs, rfl⟩
  obtain ⟨n1, n2⟩ := h.dueAsc at_
  obtain rfl := sorted_is (hp.trans hperm) n1 n2 hs
  exact ⟨_, .own (by rw [List.length_map, Nat.mul_one]) hcap hmax, rfl⟩
def ahead (a b : Tm) : Prop := a.s.due < b.s.due ∨ (a.s.due = b.s.due ∧ a.turn < b.turn)
structure ToS where
 nw : Nat
 Li : List Tm
 O : List Tm
 v : Value
 XO : Heap
 HW : Heap
structure Gone (now nw : Nat) (L Li O : List Tm) : Prop where
 le : now ≤ nw
 left : Li = L.filter (fun t => decide (nw < t.s.due))
 perm : O.Perm (L.filter (fun t => decide (t.s.due ≤ nw)))
 asc : O.Pairwise ahead
theorem Gone.start {now : Nat} {L : List Tm} (h : ∀ t ∈ L, now < t.s.due) : Gone now now L L [] where
 le := Nat.le_refl _
 left := (List.filter_eq_self.2 fun t ht => decide_eq_true (h t ht)).symm
 perm := by
  rw [List.filter_eq_nil_iff.2 (fun t ht => by have := h t ht; simp; omega)]
 asc := .nil
theorem Gone.len {now nw : Nat} {L Li O : List Tm} (h : Gone now nw L Li O) : O.length ≤ L.length := by
 rw [h.perm.length_eq]; exact List.length_filter_le _ _
theorem Gone.wait {now nw n2 : Nat} {L Li O : List Tm} (h : Gone now nw L Li O) (hn : nw ≤ n2) (hl : ∀ t ∈ Li, n2 < t.s.due) : Gone now n2 L Li O := by
 have hd : ∀ t ∈ L, nw < t.s.due → n2 < t.s.due := fun t ht h1 => hl t (by rw [h.left]; exact List.mem_filter.2 ⟨ht, decide_eq_true h1⟩)
 refine ⟨Nat.le_trans h.le hn, ?_, ?_, h.asc⟩
 ·rw [h.left]
  exact List.filter_congr fun t ht => decide_eq_decide.2 ⟨hd t ht, fun h1 => by omega⟩
 ·refine h.perm.trans ?_
  rw [List.filter_congr fun t ht => (decide_eq_decide.2 ⟨fun h1 => by omega, fun h1 => by
   by_cases c : nw < t.s.due
   ·have := hd t ht c; omega
   ·omega⟩ : decide (t.s.due ≤ nw) = decide (t.s.due ≤ n2))]
theorem dueAt_pairwise {Li : List Tm} {at_ : Nat} (h : Li.Pairwise (fun a b => a.turn < b.turn)) : (dueAt Li at_).Pairwise ahead := by
 have h1 : (dueAt Li at_).Pairwise (fun a b => a.turn < b.turn) := h.sublist List.filter_sublist
 refine List.Pairwise.imp_of_mem ?_ h1
 intro a b ha hb hab
 exact .inr ⟨by rw [of_decide_eq_true (List.mem_filter.1 ha).2, of_decide_eq_true (List.mem_filter.1 hb).2], hab⟩
theorem Gone.step {now nw at_ : Nat} {L Li O : List Tm} (h : Gone now nw L Li O) (hat : leastT Li = some at_) (hturn : Li.Pairwise (fun a b => a.turn < b.turn)) :
  Gone now at_ L (Li.filter (fun t => decide (t.s.due ≠ at_))) (O ++ dueAt Li at_) := by
 obtain ⟨⟨t0, ht0, e0⟩, hl⟩ := leastT_is hat
 have hnw : nw < at_ := by
  rw [h.left] at ht0
  have := of_decide_eq_true (List.mem_filter.1 ht0).2
  omega
 have hd : ∀ t ∈ L, nw < t.s.due → at_ ≤ t.s.due := fun t ht h1 => hl t (by rw [h.left]; exact List.mem_filter.2 ⟨ht, decide_eq_true h1⟩)
 refine ⟨Nat.le_trans h.le (Nat.le_of_lt hnw), ?_, ?_, ?_⟩
 ·rw [h.left, List.filter_filter]
  refine List.filter_congr fun t ht => ?_
  rw [← Bool.decide_and]
  refine decide_eq_decide.2 ⟨fun ⟨h1, h2⟩ => ?_, fun h1 => ⟨by omega, by omega⟩⟩
  have := hd t ht h2; omega
 ·refine (h.perm.append_right _).trans ?_
  have e : dueAt Li at_ = L.filter (fun t => decide (t.s.due = at_)) := by
   unfold dueAt
   rw [h.left, List.filter_filter]
   refine List.filter_congr fun t ht => ?_
   rw [← Bool.decide_and]
   exact decide_eq_decide.2 ⟨fun h1 => h1.1, fun h1 => ⟨h1, by omega⟩⟩
  rw [e]
  refine filter_or L fun t ht => ⟨?_, ?_⟩
  ·simp only [decide_eq_true_eq]
   refine ⟨fun h1 => ?_, fun h1 => by omega⟩
   by_cases c : nw < t.s.due
   ·have := hd t ht c; omega
   ·omega
  ·simp only [decide_eq_true_eq]; omega
 ·rw [List.pairwise_append]
  refine ⟨h.asc, dueAt_pairwise hturn, fun a ha b hb => .inl ?_⟩
  have h1 := of_decide_eq_true (List.mem_filter.1 (h.perm.mem_iff.1 ha)).2
  have h2 := of_decide_eq_true (List.mem_filter.1 hb).2
  omega
theorem delsT_is (L : List Tm) : ∀ (l : List Int) (n : Nat), (l.foldl (fun (s : List Tm × Nat) id => (delT s.1 id, s.2 + if heldB s.1 id = true then 1 else 0)) (L, n)).1 = L.filter (fun t => decide (t.id ∉ l)) := by
 intro l
 induction l generalizing L with
 | nil => intro n; exact (List.filter_eq_self.2 fun t _ => by simp).symm
 | cons x l ih =>
  intro n
  rw [List.foldl_cons, ih]
  unfold delT
  rw [List.filter_filter]
  refine List.filter_congr fun t _ => ?_
  rw [← Bool.decide_and]
  exact decide_eq_decide.2 ⟨fun h h2 => (List.mem_cons.1 h2).elim h.2 h.1, fun h => ⟨fun h2 => h (List.mem_cons_of_mem _ h2), fun h2 => h (h2 ▸ List.mem_cons_self)⟩⟩
theorem dels_due {L : List Tm} {at_ : Nat} (hn : (L.map (·.id)).Nodup) : (delsT L ((dueAt L at_).map (·.id))).1 = L.filter (fun t => decide (t.s.due ≠ at_)) := by
 unfold delsT
 rw [delsT_is]
 refine List.filter_congr fun t ht => decide_eq_decide.2 ⟨fun h e => h (List.mem_map_of_mem (List.mem_filter.2 ⟨ht, decide_eq_true e⟩)), fun h e => ?_⟩
 obtain ⟨u, hu, e2⟩ := List.mem_map.1 e
 obtain rfl := tm_uniq hn (List.mem_filter.1 hu).1 ht e2
 exact h (of_decide_eq_true (List.mem_filter.1 hu).2)
theorem filter_lt {L : List Tm} {at_ : Nat} (h : leastT L = some at_) : (L.filter (fun t => decide (t.s.due ≠ at_))).length < L.length := by
 obtain ⟨⟨t, ht, e⟩, _⟩ := leastT_is h
 refine List.length_filter_lt_length_iff_exists.2 ⟨t, ht, ?_⟩
 simp [e]
theorem To_stay {w0 : World} {H : Heap} {bw now a : Nat} {row : List Value} {tot : Nat} (hw : (bw, .cells 167 tot row) ∈ H) (hr : row[0]? = some (.int .u64 (now : Int))) (hle : a ≤ now)  : PureAt Tryz.prog w0 H 86 [.pointer (some ⟨bw, 0, none⟩), .int .u64 ((a : Nat) : Int)] (.slice none 0 0) := by
 refine L_enter Tryz.func86 rfl Tryz.ntmps86 rfl rfl ?_
 refine W_sr ?_
 refine W_assign rfl rfl ?_
 refine W_nil ?_
 refine W_scope (fun _ _ _ h => h) ?_
 refine W_seq (W_sr ?_)
 refine W_move rfl rfl ?_
 refine W_x (X_ptrNil rfl rfl ty133) (fun _ h => by cases h) rfl ?_
 refine W_move rfl rfl ?_
 refine W_gyes rfl rfl ?_
 refine W_move rfl rfl ?_
 refine W_gyes rfl rfl ?_
 refine W_move rfl rfl ?_
 refine W_gyes rfl rfl ?_
 refine W_nilCheck rfl rfl ?_
 refine W_gyes rfl rfl ?_
 refine W_fieldAddr rfl fld167_0 zd rfl ?_
 refine W_gyes rfl rfl ?_
 refine W_load (v := .int .u64 (now : Int)) rfl ty22 rfl (Cell.own hw hr) rfl ?_
 refine W_gyes rfl rfl ?_
 refine W_bin rfl rfl b_leq rfl ?_
 first | refine W_pickt rfl rfl rfl ?_ | refine W_pickf rfl rfl rfl ?_
 refine W_nil ?_
 refine W_condT rfl (decide_eq_true zO) ?_
 refine W_sr ?_
 refine W_assign rfl rfl ?_
 refine W_nil ?_
 refine W_ret1m (H2 := H) Tryz.results86 rfl (.nil _) zH ?_
 exact ⟨rfl, rfl⟩
theorem To_nilp {z : Int} : Pure Tryz.prog (fun _ => True) 86 [.pointer none, .int .u64 z] (.slice none 0 0) := by
 intro w0 H hT
 refine L_enter Tryz.func86 rfl Tryz.ntmps86 rfl rfl ?_
 refine W_sr ?_
 refine W_assign rfl rfl ?_
 refine W_nil ?_
 refine W_scope (fun _ _ _ h => h) ?_
 refine W_seq (W_sr ?_)
 refine W_move rfl rfl ?_
 refine W_x (X_ptrNil rfl rfl ty133) (fun _ h => by cases h) rfl ?_
 refine W_move rfl rfl ?_
 refine W_gno rfl rfl rfl ?_
 refine W_gno rfl rfl rfl ?_
 refine W_gno rfl rfl rfl ?_
 refine W_gno rfl rfl rfl ?_
 refine W_gno rfl rfl rfl ?_
 refine W_gno rfl rfl rfl ?_
 first | refine W_pickt rfl rfl rfl ?_ | refine W_pickf rfl rfl rfl ?_
 refine W_nil ?_
 refine W_condT rfl rfl ?_
 refine W_sr ?_
 refine W_assign rfl rfl ?_
 refine W_nil ?_
 refine W_ret1m (H2 := H) Tryz.results86 rfl (.nil _) zH ?_
 exact ⟨rfl, rfl⟩
theorem To_L {w0 : World} {H : Heap} {HW : Heap} {bw now turn a : Nat} {L : List Tm} (hW : WheelH bw now L turn HW) (hlt : now < a) (ha : a ≤ 18446744073709551615) (hT : Tab w0) : LCalls Tryz.prog w0 86 #[.pointer (some ⟨bw, 0, none⟩), .int .u64 ((a : Nat) : Int)] (HW ++ H) (fun v H' => ∃ O Li HW' XO, WheelH bw a Li turn HW' ∧ Gone now a L Li O ∧ OwnS 3 1 v O.length ((O.map (·.id)).map (Value.int .i64)) XO ∧ H' = XO ++ (HW' ++ H)) := by
 obtain ⟨row0, HT0, rfl, hrl0, hr0, _⟩ := hW.now
 refine L_enter (l := [.pointer (some ⟨bw, 0, none⟩), .int .u64 ((a : Nat) : Int)]) Tryz.func86 rfl Tryz.ntmps86 rfl rfl ?_
 refine W_sr ?_
 refine W_assign rfl rfl ?_
 refine W_nil ?_
 refine W_scope (fun _ _ _ h => h) ?_
 refine W_seq (W_sr ?_)
 refine W_move rfl rfl ?_
 refine W_x (X_ptrNil rfl rfl ty133) (fun _ h => by cases h) rfl ?_
 refine W_move rfl rfl ?_
 refine W_gyes rfl rfl ?_
 refine W_move rfl rfl ?_
 refine W_gyes rfl rfl ?_
 refine W_move rfl rfl ?_
 refine W_gyes rfl rfl ?_
 refine W_nilCheck rfl rfl ?_
 refine W_gyes rfl rfl ?_
 refine W_fieldAddr rfl fld167_0 zd rfl ?_
 refine W_gyes rfl rfl ?_
 refine W_load (v := .int .u64 (now : Int)) rfl ty22 rfl (Cell.own (b := bw) zM hr0) rfl ?_
 refine W_gyes rfl rfl ?_
 refine W_bin rfl rfl b_leq rfl ?_
 first | refine W_pickt rfl rfl rfl ?_ | refine W_pickf rfl rfl rfl ?_
 refine W_nil ?_
 refine W_condF rfl (decide_eq_false zO) ?_
 refine W_skip (W_sr ?_)
 refine W_assign rfl rfl ?_
 refine W_nil (W_seq ?_)
 refine W_label ?_
 refine W_seq (W_block ?_)
 refine W_loopC (X := ToS) [(0, _), (1, _)] (fun (x : ToS) => [(5, x.v)]) (fun _ => _) (fun (x : ToS) => x.XO ++ (x.HW ++ H)) (fun (x : ToS) => (WheelH bw x.nw x.Li turn x.HW ∧ Gone now x.nw L x.Li x.O) ∧ x.nw ≤ a ∧ OwnS 3 1 x.v x.O.length ((x.O.map (·.id)).map (Value.int .i64)) x.XO) (fun (x : ToS) => x.Li.length) ⟨now, L, [], .slice none 0 0, [], (bw, .cells 167 523 row0) :: HT0⟩ ⟨⟨hW, Gone.start (hW.later zO)⟩, by show now ≤ a; omega, OwnS.nil⟩ (sub_cons rfl (sub_cons rfl (sub_nil _))) (sub_cons rfl (sub_nil _)) rfl (.refl _) ?_
 rintro ⟨nw, Li, O, v, XO, HWi⟩ ⟨hI, hna, hO⟩
 dsimp only at hI hna hO ⊢
 have hOl := hI.2.len
 have hLl : L.length ≤ 256 := hW.ids.2.2.2
 simp only [List.cons_append, List.nil_append]
 refine W_block (W_sr ?_)
 refine W_move rfl rfl ?_
 obtain ⟨hW0, hG⟩ := hI
 have hids := hW0.ids
 have hnw : nw ≤ 18446744073709551615 := by omega
 refine W_call (.cons rfl .nil) Tryz.call109 rfl ((Next_W hT hW0 hnw (H := XO ++ H)).hsub zH) ?_
 rintro v' H' ⟨rfl, rfl⟩
 rcases hat : leastT Li with _ | at_
 ·skip
  refine W_move rfl rfl ?_
  refine W_extract rfl rfl rfl ?_
  refine W_extract rfl rfl rfl ?_
  refine W_assign rfl rfl ?_
  refine W_assign rfl rfl ?_
  refine W_nil (W_seq (W_sr ?_))
  refine W_move rfl rfl ?_
  refine W_not rfl rfl ?_
  refine W_move rfl rfl ?_
  refine W_gno rfl rfl rfl ?_
  refine W_gno rfl rfl rfl ?_
  refine W_gno rfl rfl rfl ?_
  first | refine W_pickt rfl rfl rfl ?_ | refine W_pickf rfl rfl rfl ?_
  refine W_nil ?_
  refine W_condT rfl rfl ?_
  refine W_exit rfl ?_
  refine W_sr ?_
  have hfin : ∀ t ∈ Li, a < t.s.due := by rw [leastT_none.1 hat]; intro t ht; cases ht
  obtain ⟨row, HT, rfl, hrl, hr0, hlat⟩ := hW0.now
  have hW2 := hlat a hna hfin
  have hG2 := hG.wait hna hfin
  refine W_hsub (H' := XO ++ ((bw, .cells 167 523 row) :: (HT ++ H))) (show HSub (((bw, .cells 167 523 row) :: HT) ++ (XO ++ H)) _ from (show HSub ((bw, .cells 167 523 row) :: (HT ++ (XO ++ H))) _ from zH)) ?_
  refine W_move rfl rfl ?_
  refine W_move rfl rfl ?_
  refine W_nilCheck rfl rfl ?_
  refine W_fieldAddr rfl fld167_0 zd rfl ?_
  refine W_store (l' := (row.set 0 (.int .u64 (a : Int)))) rfl rfl ty22 rfl rfl (b := bw) zM (by rw [hrl]; rfl) rfl zU ?_
  refine W_nil (W_sr ?_)
  refine W_move rfl rfl ?_
  refine W_assign rfl rfl ?_
  refine W_nil ?_
  refine W_ret1m (H2 := XO ++ ((bw, .cells 167 523 (row.set 0 (.int .u64 (a : Int)))) :: (HT ++ H))) Tryz.results86 rfl (.nil _) zH ?_
  exact ⟨O, Li, _, XO, hW2, hG2, hO, rfl⟩
 ·skip
  refine W_move rfl rfl ?_
  refine W_extract rfl rfl rfl ?_
  refine W_extract rfl rfl rfl ?_
  refine W_assign rfl rfl ?_
  refine W_assign rfl rfl ?_
  refine W_nil (W_seq (W_sr ?_))
  refine W_move rfl rfl ?_
  refine W_not rfl rfl ?_
  refine W_move rfl rfl ?_
  refine W_gyes rfl rfl ?_
  refine W_move rfl rfl ?_
  refine W_gyes rfl rfl ?_
  refine W_move rfl rfl ?_
  refine W_gyes rfl rfl ?_
  refine W_bin rfl rfl b_gtr rfl ?_
  first | refine W_pickt rfl rfl rfl ?_ | refine W_pickf rfl rfl rfl ?_
  refine W_nil ?_
  refine W_condPS (p := a < at_) rfl (by simp) (fun q0 => ?_) (fun q0 => ?_)
  ·skip
   refine W_exit rfl ?_
   refine W_sr ?_
   have hfin : ∀ t ∈ Li, a < t.s.due := fun t ht => by have := (leastT_is hat).2 t ht; omega
   obtain ⟨row, HT, rfl, hrl, hr0, hlat⟩ := hW0.now
   have hW2 := hlat a hna hfin
   have hG2 := hG.wait hna hfin
   refine W_hsub (H' := XO ++ ((bw, .cells 167 523 row) :: (HT ++ H))) (show HSub (((bw, .cells 167 523 row) :: HT) ++ (XO ++ H)) _ from (show HSub ((bw, .cells 167 523 row) :: (HT ++ (XO ++ H))) _ from zH)) ?_
   refine W_move rfl rfl ?_
   refine W_move rfl rfl ?_
   refine W_nilCheck rfl rfl ?_
   refine W_fieldAddr rfl fld167_0 zd rfl ?_
   refine W_store (l' := (row.set 0 (.int .u64 (a : Int)))) rfl rfl ty22 rfl rfl (b := bw) zM (by rw [hrl]; rfl) rfl zU ?_
   refine W_nil (W_sr ?_)
   refine W_move rfl rfl ?_
   refine W_assign rfl rfl ?_
   refine W_nil ?_
   refine W_ret1m (H2 := XO ++ ((bw, .cells 167 523 (row.set 0 (.int .u64 (a : Int)))) :: (HT ++ H))) Tryz.results86 rfl (.nil _) zH ?_
   exact ⟨O, Li, _, XO, hW2, hG2, hO, rfl⟩
  ·skip
   refine W_skip (W_sr ?_)
   refine W_move rfl rfl ?_
   refine W_move rfl rfl ?_
   refine W_call (.cons rfl (.cons rfl .nil)) Tryz.call110 rfl (due_W hT hW0 hnw hat) ?_
   rintro vd H' ⟨XB, hB, rfl⟩
   obtain ⟨ads, caps, rfl, _, _⟩ := hB.shape
   have hdl : (dueAt Li at_).length ≤ Li.length := List.length_filter_le _ _
   refine W_assign rfl rfl ?_
   refine W_nil (W_sr ?_)
   refine W_move rfl rfl ?_
   refine W_move rfl rfl ?_
   have hrow : Holds w0 (XB ++ (XO ++ H)) ads (((dueAt Li at_).map (·.id)).map (Value.int .i64)) := OwnS.holds hB (fun p hp => List.mem_append_left _ hp)
   have hdn : ((dueAt Li at_).map (·.id)).length ≤ 4611686018427387904 := by rw [List.length_map]; omega
   have hDL := Del_L (cap := caps) hW0 hdn hrow
   have hDL2 := hDL.hsub (show HSub (XB ++ (HWi ++ (XO ++ H))) _ from zH)
   refine W_call (.cons rfl (.cons rfl .nil)) Tryz.call102 rfl hDL2 ?_
   rintro v' H' ⟨HW1, hW1, rfl, rfl⟩
   rw [dels_due hids.1] at hW1
   obtain ⟨row, HT, rfl, hrl, hr0, hlat⟩ := hW1.now
   have hG2 := hG.step hat hids.2.2.1
   have hnat : nw ≤ at_ := by
    obtain ⟨⟨t0, ht0, e0⟩, _⟩ := leastT_is hat
    rw [hG.left] at ht0
    have := of_decide_eq_true (List.mem_filter.1 ht0).2
    omega
   have hat2 : ∀ t ∈ Li.filter (fun t => decide (t.s.due ≠ at_)), at_ < t.s.due := fun t ht => by
    rw [hG2.left] at ht
    exact of_decide_eq_true (List.mem_filter.1 ht).2
   have hW2 := hlat at_ hnat hat2
   refine W_hsub (H' := (bw, .cells 167 523 row) :: (HT ++ (XB ++ (XO ++ H)))) (.refl _) ?_
   refine W_nil (W_sr ?_)
   refine W_move rfl rfl ?_
   refine W_move rfl rfl ?_
   refine W_nilCheck rfl rfl ?_
   refine W_fieldAddr rfl fld167_0 zd rfl ?_
   refine W_store (l' := (row.set 0 (.int .u64 (at_ : Int)))) rfl rfl ty22 rfl rfl (b := bw) zM (by rw [hrl]; rfl) rfl zU ?_
   refine W_nil ?_
   refine W_region ?_
   refine W_move rfl rfl ?_
   refine W_move rfl rfl ?_
   refine W_append (news := ((dueAt Li at_).map (·.id)).map (Value.int .i64)) (m := ((dueAt Li at_).map (·.id)).length) (HB := XO) (H0 := (bw, .cells 167 523 (row.set 0 (.int .u64 (at_ : Int)))) :: (HT ++ (XB ++ H))) rfl rfl ty24 ty3 rfl (by decide) hO (by rw [List.length_map, Nat.mul_one]) (OwnS.holds hB (fun p hp => List.mem_cons_of_mem _ (List.mem_append_right _ (List.mem_append_left _ hp)))) (by rw [List.all_eq_true]; intro u hu; obtain ⟨q, _, rfl⟩ := List.mem_map.1 hu; rfl) (by rw [List.length_map]; simp only [maxLen]; omega) (by rw [List.length_map]; omega) zH rfl (fun v' X' hO' => ?_)
   refine W_assign rfl rfl ?_
   refine W_nil ?_
   refine W_blk ?_
   refine W_again ⟨at_, Li.filter (fun t => decide (t.s.due ≠ at_)), O ++ dueAt Li at_, v', X', (bw, .cells 167 523 (row.set 0 (.int .u64 (at_ : Int)))) :: HT⟩ ⟨⟨hW2, hG2⟩, by show at_ ≤ a; omega, by show OwnS 3 1 v' (O ++ dueAt Li at_).length (((O ++ dueAt Li at_).map (·.id)).map (Value.int .i64)) X'; rw [List.map_append, List.map_append, List.length_append]; rw [List.length_map] at hO'; exact hO'⟩ (filter_lt hat) (sub_cons rfl (sub_cons rfl (sub_cons rfl (sub_nil _)))) rfl (show HSub _ (X' ++ ((bw, .cells 167 523 (row.set 0 (.int .u64 (at_ : Int)))) :: (HT ++ H))) from zH)
instance : DecidableEq Tm := fun a b => by
 cases a; cases b
 rename_i i s t i2 s2 t2
 exact if h : i = i2 ∧ s = s2 ∧ t = t2 then isTrue (by obtain ⟨rfl, rfl, rfl⟩ := h; rfl) else isFalse (fun e => h (by cases e; exact ⟨rfl, rfl, rfl⟩))
instance (a b : Tm) : Decidable (ahead a b) := inferInstanceAs (Decidable (_ ∨ _))
theorem ahead_unique : ∀ {a b : List Tm}, a.Perm b → a.Pairwise ahead → b.Pairwise ahead → a = b
 | [], b, hp, _, _ => (List.Perm.nil_eq hp)
 | x :: a, b, hp, ha, hb => by
  cases b with
  | nil => exact absurd hp.length_eq (by simp)
  | cons y b =>
   have ha' := List.pairwise_cons.1 ha
   have hb' := List.pairwise_cons.1 hb
   have hxy : x = y := by
    rcases List.mem_cons.1 (hp.mem_iff.1 List.mem_cons_self) with h | h
    ·exact h
    ·rcases List.mem_cons.1 (hp.mem_iff.2 List.mem_cons_self) with h' | h'
     ·exact h'.symm
     ·have h1 := hb'.1 x h; have h2 := ha'.1 y h'
      unfold ahead at h1 h2; omega
   subst hxy
   rw [ahead_unique (List.Perm.cons_inv hp) ha'.2 hb'.2]
theorem same_q {w0 : World} {H : Heap} {l r : List Int} {a1 a2 : Option Addr} {c1 c2 : Nat} (hl : Holds w0 H a1 (l.map (Value.int .i64))) (hr : Holds w0 H a2 (r.map (Value.int .i64))) (hn : l.length ≤ 4611686018427387904)  : PureAt Tryz.prog w0 H 43 [.slice a1 l.length c1, .slice a2 r.length c2] (.bool (decide (l = r))) := by
 refine L_enter Tryz.func43 rfl Tryz.ntmps43 rfl rfl ?_
 refine W_sr ?_
 refine W_assign rfl rfl ?_
 refine W_nil (W_seq (W_sr ?_))
 refine W_move rfl rfl ?_
 refine W_len rfl ty24 rfl rfl ?_
 refine W_move rfl rfl ?_
 refine W_len rfl ty24 rfl rfl ?_
 refine W_bin rfl rfl b_neq rfl ?_
 refine W_nil ?_
 refine W_condPS (p := (l.length : Int) ≠ (r.length : Int)) rfl (by simp) (fun q0 => ?_) (fun q0 => ?_)
 ·skip
  refine W_sr ?_
  refine W_assign rfl rfl ?_
  refine W_nil ?_
  refine W_ret1m (H2 := H) Tryz.results43 rfl (.nil _) zH ?_
  exact ⟨by rw [decide_eq_false (fun e => q0 (by rw [e]))], rfl⟩
 ·skip
  refine W_skip (W_seq (W_sr ?_))
  refine W_assign rfl rfl ?_
  refine W_nil (W_block ?_)
  have hlen : l.length = r.length := by omega
  refine W_loopC (X := Nat) [(0, _), (1, _)] (fun (i : Nat) => [(5, .int .i64 (i : Int))]) (fun _ => _) (fun (i : Nat) => H) (fun (i : Nat) => i ≤ l.length ∧ l.take i = r.take i) (fun (i : Nat) => l.length - i) 0 ⟨Nat.zero_le _, rfl⟩ (sub_cons rfl (sub_cons rfl (sub_nil _))) (sub_cons rfl (sub_nil _)) rfl zH ?_
  rintro i ⟨hi, heq⟩
  simp only [List.cons_append, List.nil_append]
  refine W_seq (W_sr ?_)
  refine W_move rfl rfl ?_
  refine W_move rfl rfl ?_
  refine W_len rfl ty24 rfl rfl ?_
  refine W_bin rfl rfl b_lss rfl ?_
  refine W_nil ?_
  refine W_condPS (p := (i : Int) < (l.length : Int)) rfl (by simp) (fun q1 => ?_) (fun q1 => ?_)
  ·skip
   refine W_skip (W_seq (W_block ?_))
   refine W_quietsr zk zK ?_
   obtain ⟨x, hx⟩ : ∃ x, l[i]? = some x := ⟨_, List.getElem?_eq_getElem zO⟩
   obtain ⟨q0, p0, rfl, hc⟩ := hl.at (i := i) (v := .int .i64 x) (by rw [List.getElem?_map, hx]; rfl)
   obtain ⟨y, hy⟩ : ∃ y, r[i]? = some y := ⟨_, List.getElem?_eq_getElem zO⟩
   obtain ⟨q1, p1, rfl, hc'⟩ := hr.at (i := i) (v := .int .i64 y) (by rw [List.getElem?_map, hy]; rfl)
   refine WQ_x (X_move rfl) rfl ?_
   refine WQ_x (X_move rfl) rfl ?_
   refine WQ_x (X_indexAddr (j := i) rfl rfl ty24 ty3 rfl zO rfl) rfl ?_
   refine WQ_x (X_load (v := .int .i64 x) rfl ty3 rfl (by rw [Nat.mul_one]; exact hc.up zH)) rfl ?_
   refine WQ_x (X_move rfl) rfl ?_
   refine WQ_x (X_move rfl) rfl ?_
   refine WQ_x (X_indexAddr (j := i) rfl rfl ty24 ty3 rfl zO rfl) rfl ?_
   refine WQ_x (X_load (v := .int .i64 y) rfl ty3 rfl (by rw [Nat.mul_one]; exact hc'.up zH)) rfl ?_
   refine WQ_x (X_bin rfl rfl b_neq) rfl ?_
   refine WQ_nil ?_
   refine W_condPS (p := ¬ x = y) rfl (by simp) (fun q2 => ?_) (fun q2 => ?_)
   ·skip
    refine W_sr ?_
    refine W_assign rfl rfl ?_
    refine W_nil ?_
    refine W_ret1m (H2 := H) Tryz.results43 rfl (.nil _) zH ?_
    exact ⟨by rw [decide_eq_false (fun e => q2 (by rw [e, hy] at hx; exact (Option.some.inj hx).symm))], rfl⟩
   ·skip
    refine W_skip ?_
    refine W_blk ?_
    refine W_region ?_
    refine W_move rfl rfl ?_
    refine W_bin rfl rfl (b_add (m := ((i + 1 : Nat) : Int)) ((i64w zO).trans zO)) rfl ?_
    refine W_assign rfl rfl ?_
    refine W_nil ?_
    refine W_again (i + 1) ⟨by omega, by rw [takeAt hx, takeAt hy, heq, Classical.not_not.1 q2]⟩ (by omega) (sub_cons rfl (sub_cons rfl (sub_cons rfl (sub_nil _)))) rfl zH
  ·skip
   refine W_exit rfl ?_
   refine W_sr ?_
   refine W_assign rfl rfl ?_
   refine W_nil ?_
   refine W_ret1m (H2 := H) Tryz.results43 rfl (.nil _) zH ?_
   obtain rfl : i = l.length := by omega
   exact ⟨by rw [decide_eq_true (by rwa [List.take_length, hlen, List.take_length] at heq)], rfl⟩
theorem To_any {w0 : World} {H HW : Heap} {bw now turn a : Nat} {L : List Tm} (hT : Tab w0) (hW : WheelH bw now L turn HW) (hd : ∀ t ∈ L, now < t.s.due) (ha : a ≤ 18446744073709551615) :
  LCalls Tryz.prog w0 86 #[.pointer (some ⟨bw, 0, none⟩), .int .u64 ((a : Nat) : Int)] (HW ++ H) (fun v H' => ∃ O Li HW' XO, WheelH bw (max now a) Li turn HW' ∧ Gone now (max now a) L Li O ∧ OwnS 3 1 v O.length ((O.map (·.id)).map (Value.int .i64)) XO ∧ H' = XO ++ (HW' ++ H)) := by
 by_cases h : a ≤ now
 ·obtain ⟨row, HT, rfl, _, hr0, _⟩ := hW.now
  have := To_stay (w0 := w0) (H := ((bw, .cells 167 523 row) :: HT) ++ H) (now := now) (row := row) (tot := 523) zM hr0 h
  refine LCalls.mono this ?_
  rintro v H' ⟨rfl, rfl⟩
  rw [Nat.max_eq_left h]
  exact ⟨[], L, _, [], hW, Gone.start hd, .nil, rfl⟩
 ·have e : max now a = a := Nat.max_eq_right zO
  rw [e]
  exact To_L hW zO ha hT
theorem Gone.same {now nw : Nat} {L La Lb Oa Ob : List Tm} (ha : Gone now nw L La Oa) (hb : Gone now nw L Lb Ob) : La = Lb ∧ Oa = Ob :=
 ⟨ha.left.trans hb.left.symm, ahead_unique (ha.perm.trans hb.perm.symm) ha.asc hb.asc⟩
theorem rAdd_pure {a b : Nat} (ha : a ≤ 18446744073709551615) (hb : b ≤ 18446744073709551615) : Pure Tryz.prog (fun _ => True) 165 [.int .u64 ((a : Nat) : Int), .int .u64 ((b : Nat) : Int)] (.tuple #[.int .u64 (addT a b : Nat), .bool (addOk a b)]) := by
 intro w0 H hT
 refine L_enter Tryz.func165 rfl Tryz.ntmps165 rfl rfl ?_
 refine W_sr ?_
 refine W_assign rfl rfl ?_
 refine W_assign rfl rfl ?_
 refine W_nil (W_sr ?_)
 refine W_move rfl rfl ?_
 refine W_bin rfl rfl (b_rem zd (m := ((a % 4294967296 : Nat) : Int)) (tmN _ 4294967296)) rfl ?_
 refine W_move rfl rfl ?_
 refine W_bin rfl rfl (b_rem zd (m := ((b % 4294967296 : Nat) : Int)) (tmN _ 4294967296)) rfl ?_
 refine W_bin rfl rfl (b_add (m := (((a % 4294967296 + b % 4294967296) : Nat) : Int)) (by rw [u64w ⟨by omega, by omega⟩]; omega)) rfl ?_
 refine W_assign rfl rfl ?_
 refine W_nil (W_sr ?_)
 refine W_move rfl rfl ?_
 refine W_bin rfl rfl (b_quo (by decide) (m := ((a / 4294967296 : Nat) : Int)) (by rw [show ((a : Nat) : Int).tdiv 4294967296 = ((a / 4294967296 : Nat) : Int) from tdN _ 4294967296]; exact u64w ⟨by omega, by omega⟩)) rfl ?_
 refine W_move rfl rfl ?_
 refine W_bin rfl rfl (b_quo (by decide) (m := ((b / 4294967296 : Nat) : Int)) (by rw [show ((b : Nat) : Int).tdiv 4294967296 = ((b / 4294967296 : Nat) : Int) from tdN _ 4294967296]; exact u64w ⟨by omega, by omega⟩)) rfl ?_
 refine W_bin rfl rfl (b_add (m := (((a / 4294967296 + b / 4294967296) : Nat) : Int)) (by rw [u64w ⟨by omega, by omega⟩]; omega)) rfl ?_
 refine W_move rfl rfl ?_
 refine W_bin rfl rfl (b_quo (by decide) (m := (((a % 4294967296 + b % 4294967296) / 4294967296 : Nat) : Int)) (by rw [show (((a % 4294967296 + b % 4294967296) : Nat) : Int).tdiv 4294967296 = (((a % 4294967296 + b % 4294967296) / 4294967296 : Nat) : Int) from tdN _ 4294967296]; exact u64w ⟨by omega, by omega⟩)) rfl ?_
 refine W_bin rfl rfl (b_add (m := (((a / 4294967296 + b / 4294967296 + (a % 4294967296 + b % 4294967296) / 4294967296) : Nat) : Int)) (by rw [u64w ⟨by omega, by omega⟩]; omega)) rfl ?_
 refine W_assign rfl rfl ?_
 refine W_nil (W_seq (W_sr ?_))
 refine W_move rfl rfl ?_
 refine W_bin rfl rfl b_geq rfl ?_
 refine W_nil ?_
 refine W_condPS (p := 4294967296 ≤ (a / 4294967296 + b / 4294967296 + (a % 4294967296 + b % 4294967296) / 4294967296)) rfl (by rw [decide_eq_true_eq]; omega) (fun q0 => ?_) (fun q0 => ?_)
 ·skip
  refine W_sr ?_
  refine W_assign rfl rfl ?_
  refine W_assign rfl rfl ?_
  refine W_nil ?_
  refine W_ret2m (H2 := H) Tryz.results165 rfl rfl (.nil _) zH ?_
  exact ⟨by rw [show addT a b = 18446744073709551615 from if_pos (by omega), show addOk a b = false from by unfold addOk; rw [decide_eq_true (by omega)]; rfl]; rfl, rfl⟩
 ·skip
  refine W_skip (W_sr ?_)
  refine W_move rfl rfl ?_
  refine W_bin rfl rfl (b_mul (m := (((a / 4294967296 + b / 4294967296 + (a % 4294967296 + b % 4294967296) / 4294967296) * 4294967296 : Nat) : Int)) (by rw [u64w ⟨by omega, by omega⟩]; omega)) rfl ?_
  refine W_move rfl rfl ?_
  refine W_bin rfl rfl (b_rem zd (m := (((a % 4294967296 + b % 4294967296) % 4294967296 : Nat) : Int)) (tmN _ 4294967296)) rfl ?_
  refine W_bin rfl rfl (b_add (m := (((a + b) : Nat) : Int)) (by rw [u64w ⟨by omega, by omega⟩]; omega)) rfl ?_
  refine W_assign rfl rfl ?_
  refine W_assign rfl rfl ?_
  refine W_nil ?_
  refine W_ret2m (H2 := H) Tryz.results165 rfl rfl (.nil _) zH ?_
  exact ⟨by rw [show addT a b = a + b from if_neg (by omega), show addOk a b = true from by unfold addOk; rw [decide_eq_false (by omega)]; rfl], rfl⟩
theorem rClamp_pure {a b h : Nat} (ha : a ≤ 18446744073709551615) (hb : b ≤ 18446744073709551615) (hh : h ≤ 18446744073709551615) : Pure Tryz.prog (fun _ => True) 147 [.int .u64 ((a : Nat) : Int), .int .u64 ((b : Nat) : Int), .int .u64 ((h : Nat) : Int)] (.int .u64 ((clampT a b h : Nat) : Int)) := by
 intro w0 H hT
 refine L_enter Tryz.func147 rfl Tryz.ntmps147 rfl rfl ?_
 refine W_sr ?_
 refine W_assign rfl rfl ?_
 refine W_nil (W_sr ?_)
 refine W_move rfl rfl ?_
 refine W_callp (.cons rfl (.cons rfl .nil)) Tryz.call165 rfl (T := fun _ => True) trivial (rAdd_pure (b := 1) ha zd) ?_
 obtain ⟨lo, hlo⟩ : ∃ lo, lo = addT a 1 := ⟨_, rfl⟩
 rw [← hlo]
 refine W_move rfl rfl ?_
 refine W_extract rfl rfl rfl ?_
 refine W_extract rfl rfl rfl ?_
 refine W_assign rfl rfl ?_
 refine W_assign rfl rfl ?_
 refine W_nil (W_sr ?_)
 refine W_move rfl rfl ?_
 refine W_move rfl rfl ?_
 refine W_callp (.cons rfl (.cons rfl .nil)) Tryz.call165 rfl (T := fun _ => True) trivial (rAdd_pure (b := h) ha hh) ?_
 obtain ⟨hi, hhi⟩ : ∃ hi, hi = addT a h := ⟨_, rfl⟩
 rw [← hhi]
 refine W_move rfl rfl ?_
 refine W_extract rfl rfl rfl ?_
 refine W_extract rfl rfl rfl ?_
 refine W_assign rfl rfl ?_
 refine W_assign rfl rfl ?_
 refine W_nil (W_seq (W_sr ?_))
 refine W_move rfl rfl ?_
 refine W_move rfl rfl ?_
 refine W_bin rfl rfl b_lss rfl ?_
 refine W_nil ?_
 refine W_condPS (p := b < lo) rfl (by rw [decide_eq_true_eq]; omega) (fun q0 => ?_) (fun q0 => ?_)
 ·skip
  refine W_region ?_
  refine W_move rfl rfl ?_
  refine W_assign rfl rfl ?_
  refine W_nil (W_seq (W_sr ?_))
  refine W_move rfl rfl ?_
  refine W_move rfl rfl ?_
  refine W_bin rfl rfl b_gtr rfl ?_
  refine W_nil ?_
  refine W_condPS (p := hi < lo) rfl (by rw [decide_eq_true_eq]; omega) (fun q1 => ?_) (fun q1 => ?_)
  ·skip
   refine W_region ?_
   refine W_move rfl rfl ?_
   refine W_assign rfl rfl ?_
   refine W_nil (W_sr ?_)
   refine W_move rfl rfl ?_
   refine W_assign rfl rfl ?_
   refine W_nil ?_
   refine W_ret1m (H2 := H) Tryz.results147 rfl (.nil _) zH ?_
   have hcl : clampT a b h = hi := by show min (max b (addT a 1)) (addT a h) = _; rw [← hlo, ← hhi]; omega
   refine ⟨?_, rfl⟩
   rw [hcl]
   first | done | rfl
  ·skip
   refine W_skip (W_sr ?_)
   refine W_move rfl rfl ?_
   refine W_assign rfl rfl ?_
   refine W_nil ?_
   refine W_ret1m (H2 := H) Tryz.results147 rfl (.nil _) zH ?_
   have hcl : clampT a b h = lo := by show min (max b (addT a 1)) (addT a h) = _; rw [← hlo, ← hhi]; omega
   refine ⟨?_, rfl⟩
   rw [hcl]
   first | done | rfl
 ·skip
  refine W_skip (W_seq (W_sr ?_))
  refine W_move rfl rfl ?_
  refine W_move rfl rfl ?_
  refine W_bin rfl rfl b_gtr rfl ?_
  refine W_nil ?_
  refine W_condPS (p := hi < b) rfl (by rw [decide_eq_true_eq]; omega) (fun q1 => ?_) (fun q1 => ?_)
  ·skip
   refine W_region ?_
   refine W_move rfl rfl ?_
   refine W_assign rfl rfl ?_
   refine W_nil (W_sr ?_)
   refine W_move rfl rfl ?_
   refine W_assign rfl rfl ?_
   refine W_nil ?_
   refine W_ret1m (H2 := H) Tryz.results147 rfl (.nil _) zH ?_
   have hcl : clampT a b h = hi := by show min (max b (addT a 1)) (addT a h) = _; rw [← hlo, ← hhi]; omega
   refine ⟨?_, rfl⟩
   rw [hcl]
   first | done | rfl
  ·skip
   refine W_skip (W_sr ?_)
   refine W_move rfl rfl ?_
   refine W_assign rfl rfl ?_
   refine W_nil ?_
   refine W_ret1m (H2 := H) Tryz.results147 rfl (.nil _) zH ?_
   have hcl : clampT a b h = b := by show min (max b (addT a 1)) (addT a h) = _; rw [← hlo, ← hhi]; omega
   refine ⟨?_, rfl⟩
   rw [hcl]
   first | done | rfl
theorem rGran_pure {n : Nat} (hn : n < 8) : Pure Tryz.prog (fun _ => True) 149 [.int .i64 (n : Int)] (.int .u64 ((8 ^ n : Nat) : Int)) := by
 intro w0 H hT
 refine L_enter Tryz.func149 rfl Tryz.ntmps149 rfl rfl ?_
 refine W_sr ?_
 refine W_assign rfl rfl ?_
 refine W_nil (W_seq (W_sr ?_))
 refine W_move rfl rfl ?_
 refine W_bin rfl rfl b_lss rfl ?_
 rw [decide_eq_false (by omega)]
 refine W_move rfl rfl ?_
 refine W_gyes rfl rfl ?_
 refine W_move rfl rfl ?_
 refine W_gyes rfl rfl ?_
 refine W_bin rfl rfl b_gtr rfl ?_
 rw [decide_eq_false (by omega)]
 first | refine W_pickt rfl rfl rfl ?_ | refine W_pickf rfl rfl rfl ?_
 refine W_nil ?_
 refine W_condF rfl rfl ?_
 refine W_skip (W_sr ?_)
 refine W_assign rfl rfl ?_
 refine W_nil (W_seq (W_sr ?_))
 refine W_assign rfl rfl ?_
 refine W_nil (W_block ?_)
 refine W_loopC (X := Nat) [(0, _)] (fun (i : Nat) => [(3, .int .u64 ((8 ^ i : Nat) : Int)), (4, .int .i64 (i : Int))]) (fun _ => _) (fun (i : Nat) => H) (fun (i : Nat) => i ≤ n) (fun (i : Nat) => n - i) 0 (Nat.zero_le _) (sub_cons rfl (sub_nil _)) (sub_cons rfl (sub_cons rfl (sub_nil _))) rfl zH ?_
 intro i hi
 have hp := pow8 (n := i) zO
 simp only [List.cons_append, List.nil_append]
 refine W_seq (W_sr ?_)
 refine W_move rfl rfl ?_
 refine W_move rfl rfl ?_
 refine W_bin rfl rfl b_lss rfl ?_
 refine W_nil ?_
 refine W_condPS (p := (i : Int) < (n : Int)) rfl (by simp) (fun q0 => ?_) (fun q0 => ?_)
 ·skip
  refine W_skip (W_seq (W_block ?_))
  refine W_region ?_
  refine W_move rfl rfl ?_
  have hi8 : i < 8 := by omega
  have hp7 : 8 ^ i * 8 ≤ 16777216 := by omega
  refine W_bin rfl rfl (b_mul (m := ((8 ^ (i + 1) : Nat) : Int)) (by rw [Nat.pow_succ]; generalize 8 ^ i = g at *; rw [u64w ⟨by omega, by omega⟩]; omega)) rfl ?_
  refine W_assign rfl rfl ?_
  refine W_nil ?_
  refine W_blk ?_
  refine W_region ?_
  refine W_move rfl rfl ?_
  refine W_bin rfl rfl (b_add (m := ((i + 1 : Nat) : Int)) ((i64w zO).trans zO)) rfl ?_
  refine W_assign rfl rfl ?_
  refine W_nil ?_
  refine W_again (i + 1) zO zO (sub_cons rfl (sub_cons rfl (sub_cons rfl (sub_nil _)))) rfl zH
 ·skip
  refine W_exit rfl ?_
  refine W_sr ?_
  refine W_move rfl rfl ?_
  refine W_assign rfl rfl ?_
  refine W_nil ?_
  refine W_ret1m (H2 := H) Tryz.results149 rfl (.nil _) zH ?_
  obtain rfl : i = n := by omega
  exact ⟨rfl, rfl⟩
theorem rOf_pure {d : Nat} (hd : d ≤ 18446744073709551615) : Pure Tryz.prog (fun _ => True) 148 [.int .u64 ((d : Nat) : Int)] (.tuple #[.int .i64 ((lvOf d).1 : Nat), .bool (lvOf d).2]) := by
 intro w0 H hT
 refine L_enter Tryz.func148 rfl Tryz.ntmps148 rfl rfl ?_
 refine W_sr ?_
 refine W_assign rfl rfl ?_
 refine W_assign rfl rfl ?_
 refine W_nil (W_seq (W_sr ?_))
 refine W_assign rfl rfl ?_
 refine W_nil (W_block ?_)
 refine W_loopC (X := Nat) [(0, _)] (fun (i : Nat) => [(4, .int .i64 (i : Int))]) (fun _ => _) (fun (i : Nat) => H) (fun (i : Nat) => i ≤ 8 ∧ ∀ j, j < i → 63 * 8 ^ j ≤ d) (fun (i : Nat) => 8 - i) 0 ⟨Nat.zero_le _, fun j hj => by omega⟩ (sub_cons rfl (sub_nil _)) (sub_cons rfl (sub_nil _)) rfl zH ?_
 rintro i ⟨hi, hl⟩
 simp only [List.cons_append, List.nil_append]
 refine W_seq (W_sr ?_)
 refine W_move rfl rfl ?_
 refine W_bin rfl rfl b_lss rfl ?_
 refine W_nil ?_
 refine W_condPS (p := (i : Int) < 8) rfl (by simp) (fun q0 => ?_) (fun q0 => ?_)
 ·skip
  refine W_skip (W_seq ?_)
  refine W_block (W_sr ?_)
  refine W_move rfl rfl ?_
  have hi8 : i < 8 := by omega
  refine W_bin rfl rfl (b_quo (by decide) (m := ((d / 63 : Nat) : Int)) (by rw [show ((d : Nat) : Int).tdiv 63 = ((d / 63 : Nat) : Int) from tdN _ 63]; exact u64w ⟨by omega, by omega⟩)) rfl ?_
  refine W_move rfl rfl ?_
  refine W_callp (.cons rfl .nil) Tryz.call149 rfl (T := fun _ => True) trivial (rGran_pure hi8) ?_
  refine W_bin rfl rfl b_lss rfl ?_
  refine W_nil ?_
  refine W_condPS (p := d < 63 * 8 ^ i) rfl (by rw [decide_eq_true_eq]; generalize 8 ^ i = g; omega) (fun q1 => ?_) (fun q1 => ?_)
  ·skip
   refine W_sr ?_
   refine W_move rfl rfl ?_
   refine W_assign rfl rfl ?_
   refine W_assign rfl rfl ?_
   refine W_nil ?_
   refine W_ret2m (H2 := H) Tryz.results148 rfl rfl (.nil _) zH ?_
   exact ⟨by rw [lvOf_at hi8 q1 hl], rfl⟩
  ·skip
   refine W_skip ?_
   refine W_blk ?_
   refine W_region ?_
   have q1n : 63 * 8 ^ i ≤ d := by omega
   refine W_move rfl rfl ?_
   refine W_bin rfl rfl (b_add (m := ((i + 1 : Nat) : Int)) ((i64w zO).trans zO)) rfl ?_
   refine W_assign rfl rfl ?_
   refine W_nil ?_
   refine W_again (i + 1) ⟨by omega, fun j hj => by by_cases e : j = i; exact e ▸ q1n; exact hl j zO⟩ zO (sub_cons rfl (sub_cons rfl (sub_nil _))) rfl zH
 ·skip
  refine W_exit rfl ?_
  refine W_sr ?_
  refine W_assign rfl rfl ?_
  refine W_assign rfl rfl ?_
  refine W_nil ?_
  refine W_ret2m (H2 := H) Tryz.results148 rfl rfl (.nil _) zH ?_
  obtain rfl : i = 8 := by omega
  exact ⟨by rw [lvOf_no hl]; rfl, rfl⟩
theorem rMul_pure {x n : Nat} (hn : n < 8) (hx : x ≤ 18446744073709551615) : Pure Tryz.prog (fun _ => True) 150 [.int .u64 ((x : Nat) : Int), .int .u64 ((8 ^ n : Nat) : Int)] (.int .u64 ((tickT x n : Nat) : Int)) := by
 intro w0 H hT
 have hp := pow8 hn
 refine L_enter Tryz.func150 rfl Tryz.ntmps150 rfl rfl ?_
 refine W_sr ?_
 refine W_assign rfl rfl ?_
 refine W_nil (W_seq (W_sr ?_))
 refine W_move rfl rfl ?_
 refine W_move rfl rfl ?_
 refine W_bin rfl rfl (b_quo (by omega) (m := ((18446744073709551615 / 8 ^ n : Nat) : Int)) (by rw [show ((18446744073709551615 : Int)).tdiv ((8 ^ n : Nat) : Int) = ((18446744073709551615 / 8 ^ n : Nat) : Int) from tdN 18446744073709551615 _]; have := Nat.div_le_self 18446744073709551615 (8 ^ n); generalize 18446744073709551615 / 8 ^ n = y at *; exact u64w ⟨by omega, by omega⟩)) rfl ?_
 refine W_bin rfl rfl b_gtr rfl ?_
 refine W_nil ?_
 refine W_condPS (p := 18446744073709551615 / 8 ^ n < x) rfl (by rw [decide_eq_true_eq]; exact Int.ofNat_lt) (fun q0 => ?_) (fun q0 => ?_)
 ·skip
  refine W_sr ?_
  refine W_assign rfl rfl ?_
  refine W_nil ?_
  refine W_ret1m (H2 := H) Tryz.results150 rfl (.nil _) zH ?_
  exact ⟨by rw [show tickT x n = 18446744073709551615 from if_pos q0]; rfl, rfl⟩
 ·skip
  refine W_skip (W_sr ?_)
  refine W_move rfl rfl ?_
  refine W_move rfl rfl ?_
  have hle := tickT_le x n
  have htk : tickT x n = x * 8 ^ n := if_neg q0
  rw [htk] at hle
  refine W_bin rfl rfl (b_mul (m := ((x * 8 ^ n : Nat) : Int)) (by rw [← Int.natCast_mul]; generalize x * 8 ^ n = y at *; exact u64w ⟨by omega, by omega⟩)) rfl ?_
  refine W_assign rfl rfl ?_
  refine W_nil ?_
  refine W_ret1m (H2 := H) Tryz.results150 rfl (.nil _) zH ?_
  exact ⟨by rw [htk], rfl⟩
theorem ceil_mod {t n : Nat} : 0 < t % 8 ^ n ↔ t / 8 ^ n * 8 ^ n ≠ t := by
 have h1 := Nat.div_add_mod t (8 ^ n)
 rw [Nat.mul_comm] at h1
 omega
theorem ceil_le {t n : Nat} (h : t ≤ 18446744073709551615) : ceilT t n ≤ 18446744073709551615 := by
 unfold ceilT
 split
 ·rename_i hc
  have h0 := Nat.div_le_self t (8 ^ n)
  by_cases e : t / 8 ^ n = t
  ·exfalso
   have hg : 0 < 8 ^ n := Nat.pow_pos zO
   have h1 := Nat.div_mul_le_self t (8 ^ n)
   rw [e] at h1 hc
   have h2 : t * 1 ≤ t * 8 ^ n := Nat.mul_le_mul_left t hg
   omega
  ·omega
 ·exact Nat.le_trans (Nat.div_le_self _ _) h
theorem rPlace_pure {a b : Nat} (ha : a ≤ 18446744073709551615) (hb : b ≤ 18446744073709551615) : Pure Tryz.prog (fun _ => True) 132 [.int .u64 ((a : Nat) : Int), .int .u64 ((b : Nat) : Int)] (.tuple #[.agg (placeT a b).1.v.toArray, .int .i64 (placeT a b).2]) := by
 intro w0 H hT
 refine L_enter Tryz.func132 rfl Tryz.ntmps132 rfl rfl ?_
 refine W_sr ?_
 refine W_alloc (l := zSpot.v) ty70 rfl rfl (fun b4 => ?_)
 refine W_assign rfl rfl ?_
 refine W_nil (W_seq (W_sr ?_))
 refine W_move rfl rfl ?_
 refine W_bin rfl rfl b_eql rfl ?_
 refine W_nil ?_
 refine W_condPS (p := a = 18446744073709551615) rfl (by rw [decide_eq_true_eq]; exact Int.ofNat_inj) (fun q0 => ?_) (fun q0 => ?_)
 ·skip
  refine W_sr ?_
  refine W_build ty70 pl70 .nil rfl zF rfl ?_
  refine W_storeA (l' := zSpot.v) rfl rfl ty70 rfl rfl (b := b4) zM (by exact Nat.le_refl 4) rfl zU ?_
  refine W_assign rfl rfl ?_
  refine W_nil ?_
  refine W_ret2G (H2 := H) Tryz.results132 (.nil _) (.own rfl ty70 rfl zM rfl) (.tmp rfl) zH ?_
  exact ⟨by unfold placeT; rw [if_pos q0], rfl⟩
 ·skip
  refine W_skip (W_sr ?_)
  refine W_move rfl rfl ?_
  refine W_move rfl rfl ?_
  refine W_callp (.cons rfl (.cons rfl (.cons rfl .nil))) Tryz.call147 rfl (T := fun _ => True) trivial (rClamp_pure (h := 132120575) ha hb zO) ?_
  obtain ⟨t, ht⟩ : ∃ t, t = clampT a b 132120575 := ⟨_, rfl⟩
  rw [← ht]
  have ht1 : t ≤ 18446744073709551615 := ht ▸ clampT_le _ _ _
  have ht2 : a ≤ t := ht ▸ clampT_ge ha _ _
  refine W_assign rfl rfl ?_
  refine W_nil (W_sr ?_)
  refine W_move rfl rfl ?_
  refine W_move rfl rfl ?_
  refine W_bin rfl rfl (b_sub (m := ((t - a : Nat) : Int)) (by rw [u64w ⟨by omega, by omega⟩]; omega)) rfl ?_
  refine W_callp (.cons rfl .nil) Tryz.call148 rfl (T := fun _ => True) trivial (rOf_pure (d := t - a) zO) ?_
  obtain ⟨n, hn⟩ : ∃ n, n = (lvOf (t - a)).1 := ⟨_, rfl⟩
  rw [← hn]
  have hn8 : n < 8 := hn ▸ lvOf_lt _
  have hp8 := pow8 hn8
  have hcu := ceil_le ht1 (n := n)
  refine W_move rfl rfl ?_
  refine W_extract rfl rfl rfl ?_
  refine W_extract rfl rfl rfl ?_
  refine W_assign rfl rfl ?_
  refine W_assign rfl rfl ?_
  refine W_nil (W_sr ?_)
  refine W_move rfl rfl ?_
  refine W_callp (.cons rfl .nil) Tryz.call149 rfl (T := fun _ => True) trivial (rGran_pure hn8) ?_
  refine W_assign rfl rfl ?_
  refine W_nil (W_sr ?_)
  refine W_move rfl rfl ?_
  refine W_move rfl rfl ?_
  refine W_bin rfl rfl (b_quo (by omega) (m := ((t / 8 ^ n : Nat) : Int)) (by rw [tdN]; have := Nat.div_le_self t (8 ^ n); generalize t / 8 ^ n = y at *; exact u64w ⟨by omega, by omega⟩)) rfl ?_
  refine W_assign rfl rfl ?_
  refine W_nil (W_seq (W_sr ?_))
  refine W_move rfl rfl ?_
  refine W_move rfl rfl ?_
  refine W_bin rfl rfl (b_rem zO (m := ((t % 8 ^ n : Nat) : Int)) (tmN _ _)) rfl ?_
  refine W_bin rfl rfl b_gtr rfl ?_
  refine W_nil ?_
  refine W_condPS (p := 0 < t % 8 ^ n) rfl (by rw [decide_eq_true_eq]; exact Int.ofNat_lt) (fun q1 => ?_) (fun q1 => ?_)
  ·skip
   refine W_region ?_
   refine W_move rfl rfl ?_
   have hce : ceilT t n = t / 8 ^ n + 1 := if_pos (ceil_mod.1 q1)
   refine W_bin rfl rfl (b_add (m := ((ceilT t n : Nat) : Int)) (by rw [hce] at hcu ⊢; generalize t / 8 ^ n = y at *; rw [u64w ⟨by omega, by omega⟩]; omega)) rfl ?_
   refine W_assign rfl rfl ?_
   refine W_nil (W_sr ?_)
   refine W_move rfl rfl ?_
   refine W_move rfl rfl ?_
   refine W_bin rfl rfl (b_rem zd (m := ((ceilT t n % 64 : Nat) : Int)) (tmN _ 64)) rfl ?_
   refine W_conv rfl ty22 ty3 (i64w zO) rfl ?_
   refine W_move rfl rfl ?_
   refine W_move rfl rfl ?_
   refine W_move rfl rfl ?_
   refine W_callp (.cons rfl (.cons rfl .nil)) Tryz.call150 rfl (T := fun _ => True) trivial (rMul_pure (x := ceilT t n) hn8 hcu) ?_
   refine W_build (l := [.int .i64 (n : Int), .int .i64 ((ceilT t n % 64 : Nat) : Int), .int .u64 (t : Int), .int .u64 ((tickT (ceilT t n) n : Nat) : Int)]) ty70 pl70 (.cons rfl rfl rfl rfl rfl (.cons rfl rfl rfl rfl rfl (.cons rfl rfl rfl rfl rfl (.cons rfl rfl rfl rfl rfl .nil)))) rfl rfl rfl ?_
   refine W_storeA (l' := [.int .i64 (n : Int), .int .i64 ((ceilT t n % 64 : Nat) : Int), .int .u64 (t : Int), .int .u64 ((tickT (ceilT t n) n : Nat) : Int)]) rfl rfl ty70 rfl rfl (b := b4) zM (by exact Nat.le_refl 4) rfl zU ?_
   refine W_assign rfl rfl ?_
   refine W_nil ?_
   refine W_ret2G (H2 := H) Tryz.results132 (.nil _) (.own rfl ty70 rfl zM rfl) (.tmp rfl) zH ?_
   exact ⟨by unfold placeT; rw [if_neg q0]; dsimp only; rw [← ht, ← hn]; rfl, rfl⟩
  ·skip
   refine W_skip (W_sr ?_)
   have hce : ceilT t n = t / 8 ^ n := if_neg (fun h => q1 (ceil_mod.2 h))
   rw [← hce]
   refine W_move rfl rfl ?_
   refine W_move rfl rfl ?_
   refine W_bin rfl rfl (b_rem zd (m := ((ceilT t n % 64 : Nat) : Int)) (tmN _ 64)) rfl ?_
   refine W_conv rfl ty22 ty3 (i64w zO) rfl ?_
   refine W_move rfl rfl ?_
   refine W_move rfl rfl ?_
   refine W_move rfl rfl ?_
   refine W_callp (.cons rfl (.cons rfl .nil)) Tryz.call150 rfl (T := fun _ => True) trivial (rMul_pure (x := ceilT t n) hn8 hcu) ?_
   refine W_build (l := [.int .i64 (n : Int), .int .i64 ((ceilT t n % 64 : Nat) : Int), .int .u64 (t : Int), .int .u64 ((tickT (ceilT t n) n : Nat) : Int)]) ty70 pl70 (.cons rfl rfl rfl rfl rfl (.cons rfl rfl rfl rfl rfl (.cons rfl rfl rfl rfl rfl (.cons rfl rfl rfl rfl rfl .nil)))) rfl rfl rfl ?_
   refine W_storeA (l' := [.int .i64 (n : Int), .int .i64 ((ceilT t n % 64 : Nat) : Int), .int .u64 (t : Int), .int .u64 ((tickT (ceilT t n) n : Nat) : Int)]) rfl rfl ty70 rfl rfl (b := b4) zM (by exact Nat.le_refl 4) rfl zU ?_
   refine W_assign rfl rfl ?_
   refine W_nil ?_
   refine W_ret2G (H2 := H) Tryz.results132 (.nil _) (.own rfl ty70 rfl zM rfl) (.tmp rfl) zH ?_
   exact ⟨by unfold placeT; rw [if_neg q0]; dsimp only; rw [← ht, ← hn]; rfl, rfl⟩
end Go.Proofs.YtcmfldfeakmdoaaGreatDoor
