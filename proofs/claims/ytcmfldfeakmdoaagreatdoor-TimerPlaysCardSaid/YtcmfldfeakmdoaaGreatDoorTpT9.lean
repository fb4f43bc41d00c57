/-
  Own work: contracts of functions that the statement reaches, and plain facts on what they compute; each theorem says its conditions.
-/
import Derived.Test.YtcmfldfeakmdoaaGreatDoorTpT8
import Derived.Test.YtcmfldfeakmdoaaGreatDoorTpS2
import Derived.Test.YtcmfldfeakmdoaaGreatDoorTpS3
import Derived.Test.YtcmfldfeakmdoaaGreatDoorTpA
set_option linter.all false
set_option linter.unusedSimpArgs false
set_option linter.unusedVariables false
set_option maxHeartbeats 16000000
namespace Go.Proofs.YtcmfldfeakmdoaaGreatDoor
open Go Go.Sl
attribute [local irreducible] W
def shutR (S : St) (Q : List (Int × Int)) (As : List Tone) (id : Int) : St × List (Int × Int) × List Tone × Bool := if 0 ≤ id ∧ id < 256 then (match As[id.toNat]? with
 | some o => if o.shut = true then (S, Q, As, false) else (delOne S id, delQ Q id, As.set id.toNat { o with shut := true }, true)
 | none => (S, Q, As, false)) else (S, Q, As, false)
theorem shutR_at {S : St} {Q : List (Int × Int)} {As : List Tone} {i : Nat} {o : Tone} (hi : i < 256) (ho : As[i]? = some o) : shutR S Q As (i : Int) = if o.shut = true then (S, Q, As, false) else (delOne S (i : Int), delQ Q (i : Int), As.set i { o with shut := true }, true) := by
 unfold shutR; rw [if_pos (by omega), show ((i : Nat) : Int).toNat = i by omega, ho]
def clearR (S : St) (Q Rs : List (Int × Int)) (As : List Tone) (id : Int) : St × List (Int × Int) × List Tone × Int := if 0 ≤ id ∧ id < 256 then (if (inR Rs id).isSome = true then (S, Q, As, 21) else (delOne S id, delQ Q id, As.set id.toNat zTone, 0)) else (S, Q, As, 2)
theorem clearR_at {S : St} {Q Rs : List (Int × Int)} {As : List Tone} {i : Nat} (hi : i < 256) : clearR S Q Rs As (i : Int) = if (inR Rs (i : Int)).isSome = true then (S, Q, As, 21) else (delOne S (i : Int), delQ Q (i : Int), As.set i zTone, 0) := by
 unfold clearR; rw [if_pos (by omega), show ((i : Nat) : Int).toNat = i by omega]
theorem dmShut_L {w0 : World} {H : Heap} {HR : Heap} {n : Nat} {S : St} {Q Rs : List (Int × Int)} {As : List Tone} {cs : List Value} (hv : DmV w0 HR n S Q Rs As cs) (hHR : HSub H HR) (hok : DOk n S Q Rs As) {id : Int}  : LCalls Tryz.prog w0 64 #[.agg (List.toArray cs), .int .i64 id] (H) (fun v H' => ∃ cs1 X, v = .tuple #[.agg (List.toArray cs1), .bool (shutR S Q As id).2.2.2] ∧ DmV w0 (X ++ HR) n ((shutR S Q As id).1) ((shutR S Q As id).2.1) (Rs) ((shutR S Q As id).2.2.1) cs1 ∧ H' = X ++ H) := by
 obtain ⟨adb, capb, Ds, ad1, cap1, ad2, cap2, ad3, cap3, rfl, hb, hc1, hc2, hQ0, hR0, hA0, hc3⟩ := hv
 obtain ⟨hS, hSn, hSl, hq, hrl, hA⟩ := hok
 refine L_enter (l := [.agg (List.toArray [.slice adb (S).length capb, .int .i64 (n : Int), .slice ad1 (Q).length cap1, .slice ad2 (Rs).length cap2, .slice ad3 (As).length cap3]), .int .i64 id]) Tryz.func64 rfl Tryz.ntmps64 rfl rfl ?_
 refine W_sr ?_
 refine W_box (l := [.slice adb (S).length capb, .int .i64 (n : Int), .slice ad1 (Q).length cap1, .slice ad2 (Rs).length cap2, .slice ad3 (As).length cap3]) rfl rfl rfl (fun b2 => ?_)
 refine W_alloc (l := [.slice none 0 0, .int .i64 0, .slice none 0 0, .slice none 0 0, .slice none 0 0]) ty63 rfl rfl (fun b4 => ?_)
 refine W_assign rfl rfl ?_
 refine W_nil (W_seq (W_sr ?_))
 refine W_move rfl rfl ?_
 refine W_callp (.cons rfl .nil) Tryz.call70 rfl (T := fun _ => True) trivial dis_pure ?_
 rcases Decidable.em (0 ≤ id ∧ id < 256) with hi | hi
 ·skip
  rw [decide_eq_true hi]
  obtain ⟨i, rfl⟩ : ∃ i : Nat, id = (i : Int) := ⟨id.toNat, by omega⟩
  obtain ⟨o, ho⟩ : ∃ o, As[i]? = some o := ⟨_, List.getElem?_eq_getElem zO⟩
  obtain ⟨q0, p0, eq0, hcx⟩ := Holds.row oneR_len zd hA0 ho
  refine W_not rfl rfl ?_
  refine W_move rfl rfl ?_
  refine W_gyes rfl rfl ?_
  refine W_fieldAddr rfl fld63_2 zd rfl ?_
  refine W_gyes rfl rfl ?_
  refine W_load (v := .slice ad3 (As).length cap3) rfl ty61 rfl (Cell.own (b := b2) zM rfl) rfl ?_
  refine W_gyes rfl rfl ?_
  refine W_move rfl rfl ?_
  refine W_gyes rfl rfl ?_
  refine W_indexAddr (b := q0) (o := p0) (j := i) (by rw [← eq0]; rfl) rfl ty61 ty78 rfl (by omega) rfl rfl ?_
  refine W_gyes rfl rfl ?_
  refine W_fieldAddr rfl fld78_1 zd rfl ?_
  refine W_gyes rfl rfl ?_
  refine W_load (v := .bool o.shut) rfl ty4 rfl ((hcx 1 _ rfl).up ((show HSub _ H from zH).trans hHR)) rfl ?_
  cases hsh : o.shut
  ·skip
   first | refine W_pickt rfl rfl rfl ?_ | refine W_pickf rfl rfl rfl ?_
   refine W_nil ?_
   refine W_condF rfl rfl ?_
   refine W_skip (W_sr ?_)
   refine W_loadB (vs := [.slice adb (S).length capb, .int .i64 (n : Int), .slice ad1 (Q).length cap1, .slice ad2 (Rs).length cap2, .slice ad3 (As).length cap3]) rfl ty63 rfl (b := b2) zM rfl rfl rfl ?_
   refine W_move rfl rfl ?_
   refine W_call (.cons rfl (.cons rfl .nil)) Tryz.call94 rfl (LCalls.hsub (dmTake_L (S := S) (Q := Q) (Rs := Rs) (As := As) (n := n) (id := (i : Int)) ⟨adb, capb, Ds, ad1, cap1, ad2, cap2, ad3, cap3, rfl, hb, hc1, hc2, hQ0, hR0, hA0, hc3⟩ ((show HSub _ H from zH).trans hHR) ⟨hS, hSn, hSl, hq, hrl, hA⟩ (H := (b2, .cells 63 5 [.slice adb (S).length capb, .int .i64 (n : Int), .slice ad1 (Q).length cap1, .slice ad2 (Rs).length cap2, .slice ad3 (As).length cap3]) :: (b4, .cells 63 5 [.slice none 0 0, .int .i64 0, .slice none 0 0, .slice none 0 0, .slice none 0 0]) :: H)) zH) ?_
   rintro v H' ⟨cs1, X1, rfl, ⟨ade, cape, Es, ad8, cap8, ad9, cap9, ad10, cap10, rfl, hbt, j1, j2, hQt, hRt, hAt, j3⟩, rfl⟩
   refine W_move rfl rfl ?_
   refine W_extract rfl rfl rfl ?_
   refine W_extract rfl rfl rfl ?_
   refine W_storeA (l' := [.slice ade (delOne S (i : Int)).length cape, .int .i64 (n : Int), .slice ad8 (delQ Q (i : Int)).length cap8, .slice ad9 (Rs).length cap9, .slice ad10 (As).length cap10]) rfl rfl ty63 rfl rfl (b := b2) zM (by exact Nat.le_refl 5) rfl zU ?_
   refine W_nil (W_sr ?_)
   refine W_fieldAddr rfl fld63_2 zd rfl ?_
   refine W_load (v := .slice ad10 As.length cap10) rfl ty61 rfl (Cell.own (b := b2) zM rfl) rfl ?_
   refine W_move rfl rfl ?_
   obtain ⟨q1, p1, eq1, hcx1⟩ := Holds.row oneR_len zd hAt ho
   refine W_indexAddr (b := q1) (o := p1) (j := i) (by rw [← eq1]; rfl) rfl ty61 ty78 rfl (by omega) rfl rfl ?_
   refine W_loadA (vs := oneR o) rfl ty78 rfl rfl (hcx1.up ((show HSub _ (X1 ++ H) from zH).trans (.app (.here _) hHR))) rfl ?_
   refine W_alloc (l := [.bool false, .bool false, .int .i64 0, .int .i64 0]) ty78 rfl rfl (fun b6 => ?_)
   refine W_storeA (l' := oneR o) rfl rfl ty78 rfl rfl (b := b6) zM (by exact Nat.le_refl 4) rfl zU ?_
   refine W_nil (W_sr ?_)
   refine W_fieldAddr rfl fld78_1 zd rfl ?_
   refine W_store (l' := oneR { o with shut := true }) rfl rfl ty4 rfl rfl (b := b6) zM rfl rfl zU ?_
   refine W_nil (W_sr ?_)
   refine W_loadB (vs := [.slice ade (delOne S (i : Int)).length cape, .int .i64 (n : Int), .slice ad8 (delQ Q (i : Int)).length cap8, .slice ad9 (Rs).length cap9, .slice ad10 (As).length cap10]) rfl ty63 rfl (b := b2) zM rfl rfl rfl ?_
   refine W_move rfl rfl ?_
   refine W_loadB (vs := oneR { o with shut := true }) rfl ty78 rfl (b := b6) zM rfl rfl rfl ?_
   refine W_call (.cons rfl (.cons rfl (.cons rfl .nil))) Tryz.call93 rfl (LCalls.hsub (dmset_L (HR := X1 ++ HR) (S := delOne S (i : Int)) (Q := delQ Q (i : Int)) (Rs := Rs) (As := As) (n := n) (i := i) (o := { o with shut := true }) ⟨ade, cape, Es, ad8, cap8, ad9, cap9, ad10, cap10, rfl, hbt, j1, j2, hQt, hRt, hAt, j3⟩ ((show HSub _ (X1 ++ H) from zH).trans (.app (.here _) hHR)) hA zO (H := (b2, .cells 63 5 [.slice ade (delOne S (i : Int)).length cape, .int .i64 (n : Int), .slice ad8 (delQ Q (i : Int)).length cap8, .slice ad9 (Rs).length cap9, .slice ad10 (As).length cap10]) :: (b4, .cells 63 5 [.slice none 0 0, .int .i64 0, .slice none 0 0, .slice none 0 0, .slice none 0 0]) :: (b6, .cells 78 4 (oneR { o with shut := true })) :: (X1 ++ H))) zH) ?_
   rintro v H' ⟨cs2, X, rfl, ⟨adc, capc, Es2, ad5, cap5, ad6, cap6, ad7, cap7, rfl, hb2, k1, k2, hQ2, hR2, hA2, k3⟩, rfl⟩
   refine W_storeA (l' := [.slice adc (delOne S (i : Int)).length capc, .int .i64 (n : Int), .slice ad5 (delQ Q (i : Int)).length cap5, .slice ad6 (Rs).length cap6, .slice ad7 (As.set i { o with shut := true }).length cap7]) rfl rfl ty63 rfl rfl (b := b4) zM (by exact Nat.le_refl 5) rfl zU ?_
   refine W_assign rfl rfl ?_
   refine W_nil ?_
   refine W_ret2G (H2 := X ++ (X1 ++ H)) Tryz.results64 (.nil _) (.own rfl ty63 rfl zM rfl) (.tmp rfl) zH ?_
   rw [shutR_at (by omega) ho, if_neg (by rw [hsh]; decide)]
   exact ⟨_, X ++ X1, rfl, ⟨adc, capc, Es2, ad5, cap5, ad6, cap6, ad7, cap7, rfl, by rw [List.append_assoc]; exact hb2, k1, k2, by rw [List.append_assoc]; exact hQ2, by rw [List.append_assoc]; exact hR2, by rw [List.append_assoc]; exact hA2, k3⟩, by rw [List.append_assoc]⟩
  ·skip
   first | refine W_pickt rfl rfl rfl ?_ | refine W_pickf rfl rfl rfl ?_
   refine W_nil ?_
   refine W_condT rfl rfl ?_
   refine W_sr ?_
   refine W_loadB (vs := [.slice adb (S).length capb, .int .i64 (n : Int), .slice ad1 (Q).length cap1, .slice ad2 (Rs).length cap2, .slice ad3 (As).length cap3]) rfl ty63 rfl (b := b2) zM rfl rfl rfl ?_
   refine W_storeA (l' := [.slice adb (S).length capb, .int .i64 (n : Int), .slice ad1 (Q).length cap1, .slice ad2 (Rs).length cap2, .slice ad3 (As).length cap3]) rfl rfl ty63 rfl rfl (b := b4) zM (by exact Nat.le_refl 5) rfl zU ?_
   refine W_assign rfl rfl ?_
   refine W_nil ?_
   refine W_ret2G (H2 := H) Tryz.results64 (.nil _) (.own rfl ty63 rfl zM rfl) (.tmp rfl) zH ?_
   rw [shutR_at (by omega) ho, if_pos hsh]
   exact ⟨_, [], rfl, ⟨adb, capb, Ds, ad1, cap1, ad2, cap2, ad3, cap3, rfl, hb, hc1, hc2, hQ0, hR0, hA0, hc3⟩, rfl⟩
 ·skip
  rw [decide_eq_false hi]
  refine W_not rfl rfl ?_
  refine W_move rfl rfl ?_
  refine W_gno rfl rfl rfl ?_
  refine W_gno rfl rfl rfl ?_
  refine W_gno rfl rfl rfl ?_
  refine W_gno rfl rfl rfl ?_
  refine W_gno rfl rfl rfl ?_
  refine W_gno rfl rfl rfl ?_
  first | refine W_pickt rfl rfl rfl ?_ | refine W_pickf rfl rfl rfl ?_
  refine W_nil ?_
  refine W_condT rfl rfl ?_
  refine W_sr ?_
  refine W_loadB (vs := [.slice adb (S).length capb, .int .i64 (n : Int), .slice ad1 (Q).length cap1, .slice ad2 (Rs).length cap2, .slice ad3 (As).length cap3]) rfl ty63 rfl (b := b2) zM rfl rfl rfl ?_
  refine W_storeA (l' := [.slice adb (S).length capb, .int .i64 (n : Int), .slice ad1 (Q).length cap1, .slice ad2 (Rs).length cap2, .slice ad3 (As).length cap3]) rfl rfl ty63 rfl rfl (b := b4) zM (by exact Nat.le_refl 5) rfl zU ?_
  refine W_assign rfl rfl ?_
  refine W_nil ?_
  refine W_ret2G (H2 := H) Tryz.results64 (.nil _) (.own rfl ty63 rfl zM rfl) (.tmp rfl) zH ?_
  rw [show shutR S Q As id = (S, Q, As, false) from if_neg hi]
  exact ⟨_, [], rfl, ⟨adb, capb, Ds, ad1, cap1, ad2, cap2, ad3, cap3, rfl, hb, hc1, hc2, hQ0, hR0, hA0, hc3⟩, rfl⟩
theorem dmClear_L {w0 : World} {H : Heap} {HR : Heap} {n : Nat} {S : St} {Q Rs : List (Int × Int)} {As : List Tone} {cs : List Value} (hv : DmV w0 HR n S Q Rs As cs) (hHR : HSub H HR) (hok : DOk n S Q Rs As) {id : Int}  : LCalls Tryz.prog w0 65 #[.agg (List.toArray cs), .int .i64 id] (H) (fun v H' => ∃ cs1 X, v = .tuple #[.agg (List.toArray cs1), .int .i64 (clearR S Q Rs As id).2.2.2] ∧ DmV w0 (X ++ HR) n ((clearR S Q Rs As id).1) ((clearR S Q Rs As id).2.1) (Rs) ((clearR S Q Rs As id).2.2.1) cs1 ∧ H' = X ++ H) := by
 obtain ⟨adb, capb, Ds, ad1, cap1, ad2, cap2, ad3, cap3, rfl, hb, hc1, hc2, hQ0, hR0, hA0, hc3⟩ := hv
 obtain ⟨hS, hSn, hSl, hq, hrl, hA⟩ := hok
 refine L_enter (l := [.agg (List.toArray [.slice adb (S).length capb, .int .i64 (n : Int), .slice ad1 (Q).length cap1, .slice ad2 (Rs).length cap2, .slice ad3 (As).length cap3]), .int .i64 id]) Tryz.func65 rfl Tryz.ntmps65 rfl rfl ?_
 refine W_sr ?_
 refine W_box (l := [.slice adb (S).length capb, .int .i64 (n : Int), .slice ad1 (Q).length cap1, .slice ad2 (Rs).length cap2, .slice ad3 (As).length cap3]) rfl rfl rfl (fun b2 => ?_)
 refine W_alloc (l := [.slice none 0 0, .int .i64 0, .slice none 0 0, .slice none 0 0, .slice none 0 0]) ty63 rfl rfl (fun b4 => ?_)
 refine W_assign rfl rfl ?_
 refine W_nil (W_seq (W_sr ?_))
 refine W_move rfl rfl ?_
 refine W_callp (.cons rfl .nil) Tryz.call70 rfl (T := fun _ => True) trivial dis_pure ?_
 rcases Decidable.em (0 ≤ id ∧ id < 256) with hi | hi
 ·skip
  rw [decide_eq_true hi]
  obtain ⟨i, rfl⟩ : ∃ i : Nat, id = (i : Int) := ⟨id.toNat, by omega⟩
  obtain ⟨o, ho⟩ : ∃ o, As[i]? = some o := ⟨_, List.getElem?_eq_getElem zO⟩
  obtain ⟨q0, p0, eq0, hcx⟩ := Holds.row oneR_len zd hA0 ho
  refine W_not rfl rfl ?_
  refine W_nil ?_
  refine W_condF rfl rfl ?_
  refine W_skip (W_sr ?_)
  refine W_fieldAddr rfl fld63_1 zd rfl ?_
  refine W_loadB (vs := [.int .i64 (n : Int), .slice ad1 (Q).length cap1, .slice ad2 (Rs).length cap2]) rfl ty60 rfl (b := b2) zM rfl rfl rfl ?_
  refine W_move rfl rfl ?_
  refine W_callq (.cons rfl (.cons rfl .nil)) Tryz.call27 rfl (dIn_q (n := n) (cap1 := cap1) (cap2 := cap2) (Q := Q) (Rs := Rs) (ad1 := ad1) (ad2 := ad2) (id := (i : Int)) (by have := Q_len hq; omega) zO (hQ0.up ((show HSub _ H from zH).trans hHR)) (hR0.up ((show HSub _ H from zH).trans hHR))) ?_
  rcases hir : inR Rs (i : Int) with _ | cx
  ·skip
   rw [show optV none = .tuple #[.int .i64 0, .bool false] from rfl]
   refine W_move rfl rfl ?_
   refine W_extract rfl rfl rfl ?_
   refine W_extract rfl rfl rfl ?_
   refine W_assign rfl rfl ?_
   refine W_assign rfl rfl ?_
   refine W_nil (W_seq (W_sr ?_))
   refine W_move rfl rfl ?_
   refine W_nil ?_
   refine W_condF rfl rfl ?_
   refine W_skip (W_sr ?_)
   refine W_loadB (vs := [.slice adb (S).length capb, .int .i64 (n : Int), .slice ad1 (Q).length cap1, .slice ad2 (Rs).length cap2, .slice ad3 (As).length cap3]) rfl ty63 rfl (b := b2) zM rfl rfl rfl ?_
   refine W_move rfl rfl ?_
   refine W_call (.cons rfl (.cons rfl .nil)) Tryz.call94 rfl (LCalls.hsub (dmTake_L (S := S) (Q := Q) (Rs := Rs) (As := As) (n := n) (id := (i : Int)) ⟨adb, capb, Ds, ad1, cap1, ad2, cap2, ad3, cap3, rfl, hb, hc1, hc2, hQ0, hR0, hA0, hc3⟩ ((show HSub _ H from zH).trans hHR) ⟨hS, hSn, hSl, hq, hrl, hA⟩ (H := (b2, .cells 63 5 [.slice adb (S).length capb, .int .i64 (n : Int), .slice ad1 (Q).length cap1, .slice ad2 (Rs).length cap2, .slice ad3 (As).length cap3]) :: (b4, .cells 63 5 [.slice none 0 0, .int .i64 0, .slice none 0 0, .slice none 0 0, .slice none 0 0]) :: H)) zH) ?_
   rintro v H' ⟨cs1, X1, rfl, ⟨ade, cape, Es, ad8, cap8, ad9, cap9, ad10, cap10, rfl, hbt, j1, j2, hQt, hRt, hAt, j3⟩, rfl⟩
   refine W_move rfl rfl ?_
   refine W_extract rfl rfl rfl ?_
   refine W_extract rfl rfl rfl ?_
   refine W_storeA (l' := [.slice ade (delOne S (i : Int)).length cape, .int .i64 (n : Int), .slice ad8 (delQ Q (i : Int)).length cap8, .slice ad9 (Rs).length cap9, .slice ad10 (As).length cap10]) rfl rfl ty63 rfl rfl (b := b2) zM (by exact Nat.le_refl 5) rfl zU ?_
   refine W_nil (W_sr ?_)
   refine W_loadB (vs := [.slice ade (delOne S (i : Int)).length cape, .int .i64 (n : Int), .slice ad8 (delQ Q (i : Int)).length cap8, .slice ad9 (Rs).length cap9, .slice ad10 (As).length cap10]) rfl ty63 rfl (b := b2) zM rfl rfl rfl ?_
   refine W_move rfl rfl ?_
   refine W_build (l := oneR zTone) ty78 pl78 (.cons rfl rfl rfl rfl rfl .nil) rfl rfl rfl ?_
   refine W_call (.cons rfl (.cons rfl (.cons rfl .nil))) Tryz.call93 rfl (LCalls.hsub (dmset_L (HR := X1 ++ HR) (S := delOne S (i : Int)) (Q := delQ Q (i : Int)) (Rs := Rs) (As := As) (n := n) (i := i) (o := zTone) ⟨ade, cape, Es, ad8, cap8, ad9, cap9, ad10, cap10, rfl, hbt, j1, j2, hQt, hRt, hAt, j3⟩ ((show HSub _ (X1 ++ H) from zH).trans (.app (.here _) hHR)) hA zO (H := (b2, .cells 63 5 [.slice ade (delOne S (i : Int)).length cape, .int .i64 (n : Int), .slice ad8 (delQ Q (i : Int)).length cap8, .slice ad9 (Rs).length cap9, .slice ad10 (As).length cap10]) :: (b4, .cells 63 5 [.slice none 0 0, .int .i64 0, .slice none 0 0, .slice none 0 0, .slice none 0 0]) :: (X1 ++ H))) zH) ?_
   rintro v H' ⟨cs2, X, rfl, ⟨adc, capc, Es2, ad5, cap5, ad6, cap6, ad7, cap7, rfl, hb2, k1, k2, hQ2, hR2, hA2, k3⟩, rfl⟩
   refine W_storeA (l' := [.slice adc (delOne S (i : Int)).length capc, .int .i64 (n : Int), .slice ad5 (delQ Q (i : Int)).length cap5, .slice ad6 (Rs).length cap6, .slice ad7 (As.set i zTone).length cap7]) rfl rfl ty63 rfl rfl (b := b4) zM (by exact Nat.le_refl 5) rfl zU ?_
   refine W_assign rfl rfl ?_
   refine W_nil ?_
   refine W_ret2G (H2 := X ++ (X1 ++ H)) Tryz.results65 (.nil _) (.own rfl ty63 rfl zM rfl) (.tmp rfl) zH ?_
   rw [clearR_at (by omega), if_neg (by rw [hir]; decide)]
   exact ⟨_, X ++ X1, rfl, ⟨adc, capc, Es2, ad5, cap5, ad6, cap6, ad7, cap7, rfl, by rw [List.append_assoc]; exact hb2, k1, k2, by rw [List.append_assoc]; exact hQ2, by rw [List.append_assoc]; exact hR2, by rw [List.append_assoc]; exact hA2, k3⟩, by rw [List.append_assoc]⟩
  ·skip
   rw [show optV (some cx) = .tuple #[.int .i64 cx, .bool true] from rfl]
   refine W_move rfl rfl ?_
   refine W_extract rfl rfl rfl ?_
   refine W_extract rfl rfl rfl ?_
   refine W_assign rfl rfl ?_
   refine W_assign rfl rfl ?_
   refine W_nil (W_seq (W_sr ?_))
   refine W_move rfl rfl ?_
   refine W_nil ?_
   refine W_condT rfl rfl ?_
   refine W_sr ?_
   refine W_loadB (vs := [.slice adb (S).length capb, .int .i64 (n : Int), .slice ad1 (Q).length cap1, .slice ad2 (Rs).length cap2, .slice ad3 (As).length cap3]) rfl ty63 rfl (b := b2) zM rfl rfl rfl ?_
   refine W_storeA (l' := [.slice adb (S).length capb, .int .i64 (n : Int), .slice ad1 (Q).length cap1, .slice ad2 (Rs).length cap2, .slice ad3 (As).length cap3]) rfl rfl ty63 rfl rfl (b := b4) zM (by exact Nat.le_refl 5) rfl zU ?_
   refine W_assign rfl rfl ?_
   refine W_nil ?_
   refine W_ret2G (H2 := H) Tryz.results65 (.nil _) (.own rfl ty63 rfl zM rfl) (.tmp rfl) zH ?_
   rw [clearR_at (by omega), if_pos (by rw [hir]; rfl)]
   exact ⟨_, [], rfl, ⟨adb, capb, Ds, ad1, cap1, ad2, cap2, ad3, cap3, rfl, hb, hc1, hc2, hQ0, hR0, hA0, hc3⟩, rfl⟩
 ·skip
  rw [decide_eq_false hi]
  refine W_not rfl rfl ?_
  refine W_nil ?_
  refine W_condT rfl rfl ?_
  refine W_sr ?_
  refine W_loadB (vs := [.slice adb (S).length capb, .int .i64 (n : Int), .slice ad1 (Q).length cap1, .slice ad2 (Rs).length cap2, .slice ad3 (As).length cap3]) rfl ty63 rfl (b := b2) zM rfl rfl rfl ?_
  refine W_storeA (l' := [.slice adb (S).length capb, .int .i64 (n : Int), .slice ad1 (Q).length cap1, .slice ad2 (Rs).length cap2, .slice ad3 (As).length cap3]) rfl rfl ty63 rfl rfl (b := b4) zM (by exact Nat.le_refl 5) rfl zU ?_
  refine W_assign rfl rfl ?_
  refine W_nil ?_
  refine W_ret2G (H2 := H) Tryz.results65 (.nil _) (.own rfl ty63 rfl zM rfl) (.tmp rfl) zH ?_
  rw [show clearR S Q Rs As id = (S, Q, As, 2) from if_neg hi]
  exact ⟨_, [], rfl, ⟨adb, capb, Ds, ad1, cap1, ad2, cap2, ad3, cap3, rfl, hb, hc1, hc2, hQ0, hR0, hA0, hc3⟩, rfl⟩
theorem dmEnd_L {w0 : World} {H : Heap} {HR : Heap} {n : Nat} {S : St} {Q Rs : List (Int × Int)} {As : List Tone} {cs : List Value} (hv : DmV w0 HR n S Q Rs As cs) (hHR : HSub H HR) (hok : DOk n S Q Rs As) {c : Int} (hrn : (Rs.map (·.1)).Nodup) (hri : ∀ z, ofR Rs c = some z → (inR Rs z).isSome = true)  : LCalls Tryz.prog w0 63 #[.agg (List.toArray cs), .int .i64 c] (H) (fun v H' => ∃ cs1 X, v = .tuple #[.agg (List.toArray cs1), .int .i64 (endQ Rs c).2.1, .int .i64 (endQ Rs c).2.2] ∧ DmV w0 (X ++ HR) n (S) (Q) ((endQ Rs c).1) (As) cs1 ∧ H' = X ++ H) := by
 obtain ⟨adb, capb, Ds, ad1, cap1, ad2, cap2, ad3, cap3, rfl, hb, hc1, hc2, hQ0, hR0, hA0, hc3⟩ := hv
 obtain ⟨hS, hSn, hSl, hq, hrl, hA⟩ := hok
 refine L_enter (l := [.agg (List.toArray [.slice adb (S).length capb, .int .i64 (n : Int), .slice ad1 (Q).length cap1, .slice ad2 (Rs).length cap2, .slice ad3 (As).length cap3]), .int .i64 c]) Tryz.func63 rfl Tryz.ntmps63 rfl rfl ?_
 refine W_sr ?_
 refine W_box (l := [.slice adb (S).length capb, .int .i64 (n : Int), .slice ad1 (Q).length cap1, .slice ad2 (Rs).length cap2, .slice ad3 (As).length cap3]) rfl rfl rfl (fun b2 => ?_)
 refine W_alloc (l := [.slice none 0 0, .int .i64 0, .slice none 0 0, .slice none 0 0, .slice none 0 0]) ty63 rfl rfl (fun b4 => ?_)
 refine W_assign rfl rfl ?_
 refine W_assign rfl rfl ?_
 refine W_nil (W_sr ?_)
 refine W_fieldAddr rfl fld63_1 zd rfl ?_
 refine W_loadB (vs := [.int .i64 (n : Int), .slice ad1 (Q).length cap1, .slice ad2 (Rs).length cap2]) rfl ty60 rfl (b := b2) zM rfl rfl rfl ?_
 refine W_move rfl rfl ?_
 refine W_call (.cons rfl (.cons rfl .nil)) Tryz.call99 rfl (LCalls.hsub (dEnd_L (n := n) (Q := Q) (Rs := Rs) (c := c) ⟨ad1, cap1, ad2, cap2, rfl, hc1, hc2, hQ0, hR0⟩ ((show HSub _ H from zH).trans hHR) hq hrl hrn hri (H := (b2, .cells 63 5 [.slice adb (S).length capb, .int .i64 (n : Int), .slice ad1 (Q).length cap1, .slice ad2 (Rs).length cap2, .slice ad3 (As).length cap3]) :: (b4, .cells 63 5 [.slice none 0 0, .int .i64 0, .slice none 0 0, .slice none 0 0, .slice none 0 0]) :: H)) zH) ?_
 rintro v H' ⟨cs1, X, rfl, ⟨ad5, cap5, ad6, cap6, rfl, hc5, hc6, hQ5, hR5⟩, rfl⟩
 refine W_move rfl rfl ?_
 refine W_extract rfl rfl rfl ?_
 refine W_extract rfl rfl rfl ?_
 refine W_extract rfl rfl rfl ?_
 refine W_alloc (l := [.int .i64 0, .slice none 0 0, .slice none 0 0]) ty60 rfl rfl (fun b7 => ?_)
 refine W_storeA (l' := [.int .i64 (n : Int), .slice ad5 (Q).length cap5, .slice ad6 ((endQ Rs c).1).length cap6]) rfl rfl ty60 rfl rfl (b := b7) zM (by exact Nat.le_refl 3) rfl zU ?_
 refine W_assign rfl rfl ?_
 refine W_assign rfl rfl ?_
 refine W_nil (W_sr ?_)
 refine W_loadB (vs := [.int .i64 (n : Int), .slice ad5 (Q).length cap5, .slice ad6 ((endQ Rs c).1).length cap6]) rfl ty60 rfl (b := b7) zM rfl rfl rfl ?_
 refine W_fieldAddr rfl fld63_1 zd rfl ?_
 refine W_storeA (l' := [.slice adb (S).length capb, .int .i64 (n : Int), .slice ad5 (Q).length cap5, .slice ad6 ((endQ Rs c).1).length cap6, .slice ad3 (As).length cap3]) rfl rfl ty60 rfl rfl (b := b2) zM (by show 1 + 3 ≤ 5; omega) rfl zU ?_
 refine W_nil (W_sr ?_)
 refine W_loadB (vs := [.slice adb (S).length capb, .int .i64 (n : Int), .slice ad5 (Q).length cap5, .slice ad6 ((endQ Rs c).1).length cap6, .slice ad3 (As).length cap3]) rfl ty63 rfl (b := b2) zM rfl rfl rfl ?_
 refine W_move rfl rfl ?_
 refine W_move rfl rfl ?_
 refine W_storeA (l' := [.slice adb (S).length capb, .int .i64 (n : Int), .slice ad5 (Q).length cap5, .slice ad6 ((endQ Rs c).1).length cap6, .slice ad3 (As).length cap3]) rfl rfl ty63 rfl rfl (b := b4) zM (by exact Nat.le_refl 5) rfl zU ?_
 refine W_assign rfl rfl ?_
 refine W_assign rfl rfl ?_
 refine W_nil ?_
 refine W_ret3G (H2 := X ++ H) Tryz.results63 (.nil _) (.own rfl ty63 rfl zM rfl) (.tmp rfl) (.tmp rfl) zH ?_
 exact ⟨_, X, rfl, ⟨adb, capb, Ds, ad5, cap5, ad6, cap6, ad3, cap3, rfl, hb.up (.dropS (.refl _)), hc5, hc6, hQ5, hR5, hA0.up (.dropS (.refl _)), hc3⟩, rfl⟩
theorem CatchS.olen {S S' : St} {cpu : Int} {a : Nat} {O : List Tm} (h : CatchS S cpu a S' O) (hS : StOk S) : O.length ≤ 256 := by
 rcases h with ⟨_, _, rfl⟩ | ⟨k, now, L, Li, _, hk, hG, _⟩
 ·exact Nat.zero_le _
 ·rw [hG.perm.length_eq]
  exact Nat.le_trans (List.length_filter_le _ _) (hS _ (List.mem_of_getElem? hk)).len
theorem begQ_err {n : Nat} {Q Rs : List (Int × Int)} {cpu c : Int} (h : (begQ n Q Rs cpu c).2.2.2 ≠ 0) : (begQ n Q Rs cpu c).1 = Q ∧ (begQ n Q Rs cpu c).2.1 = Rs := by
 unfold begQ at h ⊢
 split
 ·exact ⟨rfl, rfl⟩
 ·split
  ·exact ⟨rfl, rfl⟩
  ·split
   ·exact ⟨rfl, rfl⟩
   ·split
    ·exact ⟨rfl, rfl⟩
    ·rename_i h1 h2 _ _ _ h3 h4
     exfalso
     apply h
     rw [if_neg h1, if_neg h2, h3]
     dsimp only
     rw [if_neg h4]
def stateR (S : St) (Q : List (Int × Int)) (As : List Tone) (id : Int) : Int := if 0 ≤ id ∧ id < 256 then (match As[id.toNat]? with
 | some o => if o.shut = true then 4 else if o.made = false then 0 else if (findS S id).isSome = true then 2 else if (whQ Q id).isSome = true then 3 else 1
 | none => 0) else 0
theorem stateR_at {S : St} {Q : List (Int × Int)} {As : List Tone} {i : Nat} {o : Tone} (hi : i < 256) (ho : As[i]? = some o) : stateR S Q As (i : Int) = if o.shut = true then 4 else if o.made = false then 0 else if (findS S (i : Int)).isSome = true then 2 else if (whQ Q (i : Int)).isSome = true then 3 else 1 := by
 unfold stateR; rw [if_pos (by omega), show ((i : Nat) : Int).toNat = i by omega, ho]
theorem dmCatch_L {w0 : World} {H : Heap} {HR : Heap} {n : Nat} {S : St} {Q Rs : List (Int × Int)} {As : List Tone} {cs : List Value} (hv : DmV w0 HR n S Q Rs As cs) (hHR : HSub H HR) (hok : DOk n S Q Rs As) {cpu : Int} {a : Nat}  : LCalls Tryz.prog w0 61 #[.agg (List.toArray cs), .int .i64 cpu, .int .u64 ((a : Nat) : Int)] (H) (fun v H' => ∃ cs1 ov X S1 O XO, v = .tuple #[.agg (List.toArray cs1), ov] ∧ DmV w0 (X ++ HR) n (S1) ((addsQ n Q cpu (O.map (·.id))).1) (Rs) (As) cs1 ∧ OwnS 3 1 ov (O.map (·.id)).length ((O.map (·.id)).map (Value.int .i64)) XO ∧ CatchS S cpu a S1 O ∧ H' = XO ++ (X ++ H)) := by
 obtain ⟨adb, capb, Ds, ad1, cap1, ad2, cap2, ad3, cap3, rfl, hb, hc1, hc2, hQ0, hR0, hA0, hc3⟩ := hv
 obtain ⟨hS, hSn, hSl, hq, hrl, hA⟩ := hok
 refine L_enter (l := [.agg (List.toArray [.slice adb (S).length capb, .int .i64 (n : Int), .slice ad1 (Q).length cap1, .slice ad2 (Rs).length cap2, .slice ad3 (As).length cap3]), .int .i64 cpu, .int .u64 ((a : Nat) : Int)]) Tryz.func61 rfl Tryz.ntmps61 rfl rfl ?_
 refine W_sr ?_
 refine W_box (l := [.slice adb (S).length capb, .int .i64 (n : Int), .slice ad1 (Q).length cap1, .slice ad2 (Rs).length cap2, .slice ad3 (As).length cap3]) rfl rfl rfl (fun b3 => ?_)
 refine W_alloc (l := [.slice none 0 0, .int .i64 0, .slice none 0 0, .slice none 0 0, .slice none 0 0]) ty63 rfl rfl (fun b6 => ?_)
 refine W_assign rfl rfl ?_
 refine W_nil (W_sr ?_)
 refine W_fieldAddr rfl fld63_0 zd rfl ?_
 refine W_load (v := .slice adb (S).length capb) rfl ty57 rfl (Cell.own (b := b3) zM rfl) rfl ?_
 refine W_move rfl rfl ?_
 refine W_move rfl rfl ?_
 refine W_call (.cons rfl (.cons rfl (.cons rfl .nil))) Tryz.call96 rfl (LCalls.hsub (rbCatch_L (S := S) (cpu := cpu) (a := a) hS ⟨adb, capb, Ds, rfl, hb⟩ ((show HSub _ H from zH).trans hHR) zO (H := (b3, .cells 63 5 [.slice adb (S).length capb, .int .i64 (n : Int), .slice ad1 (Q).length cap1, .slice ad2 (Rs).length cap2, .slice ad3 (As).length cap3]) :: (b6, .cells 63 5 [.slice none 0 0, .int .i64 0, .slice none 0 0, .slice none 0 0, .slice none 0 0]) :: H)) zH) ?_
 rintro v H' ⟨vw, ov, X1, S1, O, XO, rfl, ⟨adc, capc, Es, rfl, hbc⟩, hOv, hCS, rfl⟩
 have hol := hCS.olen hS
 have hil : (O.map (·.id)).length = O.length := List.length_map _
 rw [← hil] at hOv
 obtain ⟨ado, capo, rfl, _, _, hho⟩ := Holds.of_own (w0 := w0) (H := XO ++ []) hOv (fun p hp => List.mem_append_left _ hp)
 generalize hids : O.map (·.id) = ids at hOv hil hho ⊢
 refine W_move rfl rfl ?_
 refine W_extract rfl rfl rfl ?_
 refine W_extract rfl rfl rfl ?_
 refine W_assign rfl rfl ?_
 refine W_assign rfl rfl ?_
 refine W_nil (W_sr ?_)
 refine W_move rfl rfl ?_
 refine W_fieldAddr rfl fld63_0 zd rfl ?_
 refine W_store (l' := [.slice adc S1.length capc, .int .i64 (n : Int), .slice ad1 (Q).length cap1, .slice ad2 (Rs).length cap2, .slice ad3 (As).length cap3]) rfl rfl ty57 rfl rfl (b := b3) zM rfl rfl zU ?_
 refine W_nil (W_sr ?_)
 refine W_fieldAddr rfl fld63_1 zd rfl ?_
 refine W_loadB (vs := [.int .i64 (n : Int), .slice ad1 (Q).length cap1, .slice ad2 (Rs).length cap2]) rfl ty60 rfl (b := b3) zM rfl rfl rfl ?_
 refine W_move rfl rfl ?_
 refine W_move rfl rfl ?_
 refine W_call (.cons rfl (.cons rfl (.cons rfl .nil))) Tryz.call97 rfl (LCalls.hsub (dAdd_L (n := n) (Q := Q) (Rs := Rs) (cpu := cpu) (ids := ids) ⟨ad1, cap1, ad2, cap2, rfl, hc1, hc2, hQ0, hR0⟩ ((show HSub _ H from zH).trans hHR) hq hrl zO (hho.up zH) hSl (H := (b3, .cells 63 5 [.slice adc S1.length capc, .int .i64 (n : Int), .slice ad1 (Q).length cap1, .slice ad2 (Rs).length cap2, .slice ad3 (As).length cap3]) :: (b6, .cells 63 5 [.slice none 0 0, .int .i64 0, .slice none 0 0, .slice none 0 0, .slice none 0 0]) :: (XO ++ (X1 ++ H)))) zH) ?_
 rintro v H' ⟨cs1, X2_, rfl, ⟨ad5, cap5, ad6, cap6, rfl, hc5, hc6, hQ5, hR5⟩, rfl⟩
 refine W_move rfl rfl ?_
 refine W_extract rfl rfl rfl ?_
 refine W_extract rfl rfl rfl ?_
 refine W_fieldAddr rfl fld63_1 zd rfl ?_
 refine W_storeA (l' := [.slice adc (S1).length capc, .int .i64 (n : Int), .slice ad5 ((addsQ n Q cpu ids).1).length cap5, .slice ad6 (Rs).length cap6, .slice ad3 (As).length cap3]) rfl rfl ty60 rfl rfl (b := b3) zM (by show 1 + 3 ≤ 5; omega) rfl zU ?_
 refine W_nil (W_sr ?_)
 refine W_loadB (vs := [.slice adc (S1).length capc, .int .i64 (n : Int), .slice ad5 ((addsQ n Q cpu ids).1).length cap5, .slice ad6 (Rs).length cap6, .slice ad3 (As).length cap3]) rfl ty63 rfl (b := b3) zM rfl rfl rfl ?_
 refine W_move rfl rfl ?_
 refine W_storeA (l' := [.slice adc (S1).length capc, .int .i64 (n : Int), .slice ad5 ((addsQ n Q cpu ids).1).length cap5, .slice ad6 (Rs).length cap6, .slice ad3 (As).length cap3]) rfl rfl ty63 rfl rfl (b := b6) zM (by exact Nat.le_refl 5) rfl zU ?_
 refine W_assign rfl rfl ?_
 refine W_nil ?_
 refine W_ret2G (H2 := XO ++ (X2_ ++ (X1 ++ H))) Tryz.results61 (.nil _) (.own rfl ty63 rfl zM rfl) (.tmp rfl) zH ?_
 subst hids
 exact ⟨_, _, X2_ ++ X1, S1, O, XO, rfl, ⟨adc, capc, Es, ad5, cap5, ad6, cap6, ad3, cap3, rfl, by rw [List.append_assoc]; exact hbc.up (.dropS (.refl _)), hc5, hc6, by rw [List.append_assoc]; exact hQ5.up (.app (.here _) (.dropS (.refl _))), by rw [List.append_assoc]; exact hR5.up (.app (.here _) (.dropS (.refl _))), hA0.up (.dropS (.refl _)), hc3⟩, hOv, hCS, by rw [List.append_assoc]⟩
theorem dmBegin_L {w0 : World} {H : Heap} {HR : Heap} {n : Nat} {S : St} {Q Rs : List (Int × Int)} {As : List Tone} {cs : List Value} (hv : DmV w0 HR n S Q Rs As cs) (hHR : HSub H HR) (hok : DOk n S Q Rs As) {cpu c : Int}  : LCalls Tryz.prog w0 62 #[.agg (List.toArray cs), .int .i64 cpu, .int .i64 c] (H) (fun v H' => ∃ cs1 X, (v = if (begQ n Q Rs cpu c).2.2.2 = 0 then .tuple #[.agg (List.toArray cs1), .int .i64 (begQ n Q Rs cpu c).2.2.1, .int .i64 (progOf As (begQ n Q Rs cpu c).2.2.1), .int .i64 0] else .tuple #[.agg (List.toArray cs1), .int .i64 0, .int .i64 0, .int .i64 (begQ n Q Rs cpu c).2.2.2]) ∧ DmV w0 (X ++ HR) n (S) ((begQ n Q Rs cpu c).1) ((begQ n Q Rs cpu c).2.1) (As) cs1 ∧ H' = X ++ H) := by
 obtain ⟨adb, capb, Ds, ad1, cap1, ad2, cap2, ad3, cap3, rfl, hb, hc1, hc2, hQ0, hR0, hA0, hc3⟩ := hv
 obtain ⟨hS, hSn, hSl, hq, hrl, hA⟩ := hok
 refine L_enter (l := [.agg (List.toArray [.slice adb (S).length capb, .int .i64 (n : Int), .slice ad1 (Q).length cap1, .slice ad2 (Rs).length cap2, .slice ad3 (As).length cap3]), .int .i64 cpu, .int .i64 c]) Tryz.func62 rfl Tryz.ntmps62 rfl rfl ?_
 refine W_sr ?_
 refine W_box (l := [.slice adb (S).length capb, .int .i64 (n : Int), .slice ad1 (Q).length cap1, .slice ad2 (Rs).length cap2, .slice ad3 (As).length cap3]) rfl rfl rfl (fun b3 => ?_)
 refine W_alloc (l := [.slice none 0 0, .int .i64 0, .slice none 0 0, .slice none 0 0, .slice none 0 0]) ty63 rfl rfl (fun b6 => ?_)
 refine W_assign rfl rfl ?_
 refine W_assign rfl rfl ?_
 refine W_assign rfl rfl ?_
 refine W_nil (W_sr ?_)
 refine W_fieldAddr rfl fld63_1 zd rfl ?_
 refine W_loadB (vs := [.int .i64 (n : Int), .slice ad1 (Q).length cap1, .slice ad2 (Rs).length cap2]) rfl ty60 rfl (b := b3) zM rfl rfl rfl ?_
 refine W_move rfl rfl ?_
 refine W_move rfl rfl ?_
 refine W_call (.cons rfl (.cons rfl (.cons rfl .nil))) Tryz.call98 rfl (LCalls.hsub (dBegin_L (n := n) (Q := Q) (Rs := Rs) (cpu := cpu) (c := c) ⟨ad1, cap1, ad2, cap2, rfl, hc1, hc2, hQ0, hR0⟩ ((show HSub _ H from zH).trans hHR) hq hrl hSl (H := (b3, .cells 63 5 [.slice adb (S).length capb, .int .i64 (n : Int), .slice ad1 (Q).length cap1, .slice ad2 (Rs).length cap2, .slice ad3 (As).length cap3]) :: (b6, .cells 63 5 [.slice none 0 0, .int .i64 0, .slice none 0 0, .slice none 0 0, .slice none 0 0]) :: H)) zH) ?_
 rintro v H' ⟨cs1, X, rfl, hpd, rfl⟩
 have hok := begQ_ok (n := n) (Q := Q) (Rs := Rs) (cpu := cpu) (c := c) hq
 have her := begQ_err (n := n) (Q := Q) (Rs := Rs) (cpu := cpu) (c := c)
 rcases hbq : begQ n Q Rs cpu c with ⟨Q1, R1, z, e⟩
 rw [hbq] at hpd hok her
 dsimp only at hpd hok her ⊢
 obtain ⟨ad5, cap5, ad6, cap6, rfl, hc5, hc6, hQ5, hR5⟩ := hpd
 refine W_move rfl rfl ?_
 refine W_extract rfl rfl rfl ?_
 refine W_extract rfl rfl rfl ?_
 refine W_extract rfl rfl rfl ?_
 refine W_alloc (l := [.int .i64 0, .slice none 0 0, .slice none 0 0]) ty60 rfl rfl (fun b10 => ?_)
 refine W_storeA (l' := [.int .i64 (n : Int), .slice ad5 (Q1).length cap5, .slice ad6 (R1).length cap6]) rfl rfl ty60 rfl rfl (b := b10) zM (by exact Nat.le_refl 3) rfl zU ?_
 refine W_assign rfl rfl ?_
 refine W_assign rfl rfl ?_
 refine W_nil (W_seq (W_sr ?_))
 refine W_move rfl rfl ?_
 refine W_bin rfl rfl b_neq rfl ?_
 refine W_nil ?_
 refine W_condPS (p := e ≠ 0) rfl (by simp) (fun c0 => ?_) (fun c0 => ?_)
 ·skip
  refine W_sr ?_
  refine W_loadB (vs := [.slice adb (S).length capb, .int .i64 (n : Int), .slice ad1 (Q).length cap1, .slice ad2 (Rs).length cap2, .slice ad3 (As).length cap3]) rfl ty63 rfl (b := b3) zM rfl rfl rfl ?_
  refine W_move rfl rfl ?_
  refine W_storeA (l' := [.slice adb (S).length capb, .int .i64 (n : Int), .slice ad1 (Q).length cap1, .slice ad2 (Rs).length cap2, .slice ad3 (As).length cap3]) rfl rfl ty63 rfl rfl (b := b6) zM (by exact Nat.le_refl 5) rfl zU ?_
  refine W_assign rfl rfl ?_
  refine W_assign rfl rfl ?_
  refine W_assign rfl rfl ?_
  refine W_nil ?_
  refine W_ret4G (H2 := H) Tryz.results62 (.nil _) (.own rfl ty63 rfl zM rfl) (.tmp rfl) (.tmp rfl) (.tmp rfl) zH ?_
  refine ⟨_, [], (if_neg c0).symm, ?_, rfl⟩
  rw [(her c0).1, (her c0).2]
  exact ⟨adb, capb, Ds, ad1, cap1, ad2, cap2, ad3, cap3, rfl, hb, hc1, hc2, hQ0, hR0, hA0, hc3⟩
 ·skip
  refine W_skip (W_sr ?_)
  refine W_loadB (vs := [.int .i64 (n : Int), .slice ad5 (Q1).length cap5, .slice ad6 (R1).length cap6]) rfl ty60 rfl (b := b10) zM rfl rfl rfl ?_
  refine W_fieldAddr rfl fld63_1 zd rfl ?_
  refine W_storeA (l' := [.slice adb (S).length capb, .int .i64 (n : Int), .slice ad5 (Q1).length cap5, .slice ad6 (R1).length cap6, .slice ad3 (As).length cap3]) rfl rfl ty60 rfl rfl (b := b3) zM (by show 1 + 3 ≤ 5; omega) rfl zU ?_
  refine W_nil (W_seq ?_)
  obtain ⟨i, rfl⟩ : ∃ i : Nat, z = (i : Int) := ⟨z.toNat, by have := hok (Decidable.not_not.1 c0); omega⟩
  obtain ⟨o, ho⟩ : ∃ o, As[i]? = some o := ⟨_, List.getElem?_eq_getElem (by have := hok (Decidable.not_not.1 c0); omega)⟩
  obtain ⟨q0, p0, eq0, hcx⟩ := Holds.row oneR_len zd hA0 ho
  have hiA : i < As.length := by have := hok (Decidable.not_not.1 c0); omega
  refine W_anyC ((b3, .cells 63 5 [.slice adb (S).length capb, .int .i64 (n : Int), .slice ad5 (Q1).length cap5, .slice ad6 (R1).length cap6, .slice ad3 (As).length cap3]) :: (X ++ H)) zk ?_
  refine WC_take 0 (l' := #[true, false, false, false, false, false, false, false, false, false, false, false]) rfl zK zK zK rfl zK (X_loadB (vs := [.slice adb (S).length capb, .int .i64 (n : Int), .slice ad5 (Q1).length cap5, .slice ad6 (R1).length cap6, .slice ad3 (As).length cap3]) rfl ty63 rfl (b := b3) zM rfl rfl) rfl ?_
  refine WC_take 1 (l' := #[true, true, false, false, false, false, false, false, false, false, false, false]) rfl zK zK zK rfl zK (X_move rfl) rfl ?_
  refine WC_take 2 (l' := #[true, true, true, false, false, false, false, false, false, false, false, false]) rfl zK zK zK rfl zK (X_fieldAddr rfl fld63_2 zd) rfl ?_
  refine WC_take 3 (l' := #[true, true, true, true, false, false, false, false, false, false, false, false]) rfl zK zK zK rfl zK (X_load (v := .slice ad3 (As).length cap3) rfl ty61 rfl (Cell.own (b := b3) zM rfl)) rfl ?_
  refine WC_take 4 (l' := #[true, true, true, true, true, false, false, false, false, false, false, false]) rfl zK zK zK rfl zK (X_move rfl) rfl ?_
  refine WC_take 5 (l' := #[true, true, true, true, true, true, false, false, false, false, false, false]) rfl (by decide +kernel) (by decide +kernel) (by decide +kernel) rfl (by decide +kernel) (X_indexAddr (b := q0) (o := p0) (j := i) (by rw [← eq0]; rfl) rfl ty61 ty78 rfl (by omega) rfl) rfl ?_
  refine WC_take 6 (l' := #[true, true, true, true, true, true, true, false, false, false, false, false]) rfl zK zK zK rfl zK (X_fieldAddr rfl fld78_2 zd) rfl ?_
  refine WC_take 7 (l' := #[true, true, true, true, true, true, true, true, false, false, false, false]) rfl zK zK zK rfl zK (X_load (v := .int .i64 (o.prog - 1)) rfl ty3 rfl ((hcx 2 _ rfl).up ((show HSub _ H from zH).trans hHR))) rfl ?_
  refine WC_one 8 (l' := #[true, true, true, true, true, true, true, true, true, false, false, false]) zH zK rfl zK ?_
  refine W_storeA (l' := [.slice adb (S).length capb, .int .i64 (n : Int), .slice ad5 (Q1).length cap5, .slice ad6 (R1).length cap6, .slice ad3 (As).length cap3]) rfl rfl ty63 rfl rfl (b := b6) zM (by exact Nat.le_refl 5) rfl zU ?_
  refine W_nil ?_
  refine WC_goal ?_
  refine WC_take 9 (l' := #[true, true, true, true, true, true, true, true, true, true, false, false]) rfl zK zK zK rfl zK (X_assign rfl) rfl ?_
  refine WC_take 10 (l' := #[true, true, true, true, true, true, true, true, true, true, true, false]) rfl zK zK zK rfl zK (X_assign rfl) rfl ?_
  refine WC_take 11 (l' := #[true, true, true, true, true, true, true, true, true, true, true, true]) rfl zK zK zK rfl zK (X_assign rfl) rfl ?_
  refine WC_done zH zK ?_
  refine W_ret4G (H2 := X ++ H) Tryz.results62 (.nil _) (.own rfl ty63 rfl zM rfl) (.tmp rfl) (.tmp rfl) (.tmp rfl) zH ?_
  have c0 : e = 0 := by simpa using c0
  refine ⟨_, X, ?_, ⟨adb, capb, Ds, ad5, cap5, ad6, cap6, ad3, cap3, rfl, hb.up (.dropS (.refl _)), hc5, hc6, hQ5, hR5, hA0.up (.dropS (.refl _)), hc3⟩, rfl⟩
  rw [if_pos c0, progOf_at ho]
  rfl
theorem dmState_L {w0 : World} {H : Heap} {HR : Heap} {n : Nat} {S : St} {Q Rs : List (Int × Int)} {As : List Tone} {cs : List Value} (hv : DmV w0 HR n S Q Rs As cs) (hHR : HSub H HR) (hok : DOk n S Q Rs As) {id : Int}  : LCalls Tryz.prog w0 28 #[.agg (List.toArray cs), .int .i64 id] (H) (fun v H' => v = .int .i64 (stateR S Q As id) ∧ H' = H) := by
 obtain ⟨adb, capb, Ds, ad1, cap1, ad2, cap2, ad3, cap3, rfl, hb, hc1, hc2, hQ0, hR0, hA0, hc3⟩ := hv
 obtain ⟨hS, hSn, hSl, hq, hrl, hA⟩ := hok
 refine L_enter (l := [.agg (List.toArray [.slice adb (S).length capb, .int .i64 (n : Int), .slice ad1 (Q).length cap1, .slice ad2 (Rs).length cap2, .slice ad3 (As).length cap3]), .int .i64 id]) Tryz.func28 rfl Tryz.ntmps28 rfl rfl ?_
 refine W_sr ?_
 refine W_box (l := [.slice adb (S).length capb, .int .i64 (n : Int), .slice ad1 (Q).length cap1, .slice ad2 (Rs).length cap2, .slice ad3 (As).length cap3]) rfl rfl rfl (fun b2 => ?_)
 refine W_assign rfl rfl ?_
 refine W_nil (W_seq (W_sr ?_))
 refine W_move rfl rfl ?_
 refine W_callp (.cons rfl .nil) Tryz.call70 rfl (T := fun _ => True) trivial dis_pure ?_
 rcases Decidable.em (0 ≤ id ∧ id < 256) with hi | hi
 ·skip
  rw [decide_eq_true hi]
  obtain ⟨i, rfl⟩ : ∃ i : Nat, id = (i : Int) := ⟨id.toNat, by omega⟩
  obtain ⟨o, ho⟩ : ∃ o, As[i]? = some o := ⟨_, List.getElem?_eq_getElem zO⟩
  obtain ⟨q0, p0, eq0, hcx⟩ := Holds.row oneR_len zd hA0 ho
  refine W_not rfl rfl ?_
  refine W_nil ?_
  refine W_condF rfl rfl ?_
  refine W_skip (W_seq (W_sr ?_))
  refine W_fieldAddr rfl fld63_2 zd rfl ?_
  refine W_load (v := .slice ad3 (As).length cap3) rfl ty61 rfl (Cell.own (b := b2) zM rfl) rfl ?_
  refine W_move rfl rfl ?_
  refine W_indexAddr (b := q0) (o := p0) (j := i) (by rw [← eq0]; rfl) rfl ty61 ty78 rfl (by omega) rfl rfl ?_
  refine W_fieldAddr rfl fld78_1 zd rfl ?_
  refine W_load (v := .bool o.shut) rfl ty4 rfl ((hcx 1 _ rfl).up ((show HSub _ H from zH).trans hHR)) rfl ?_
  refine W_nil ?_
  refine W_condPS (p := o.shut = true) rfl (by simp) (fun c0 => ?_) (fun c0 => ?_)
  ·skip
   refine W_sr ?_
   refine W_assign rfl rfl ?_
   refine W_nil ?_
   refine W_ret1m (H2 := H) Tryz.results28 rfl (.nil _) zH ?_
   rw [stateR_at (by omega) ho, if_pos c0]
   exact ⟨rfl, rfl⟩
  ·skip
   refine W_skip (W_seq (W_sr ?_))
   refine W_fieldAddr rfl fld63_2 zd rfl ?_
   refine W_load (v := .slice ad3 (As).length cap3) rfl ty61 rfl (Cell.own (b := b2) zM rfl) rfl ?_
   refine W_move rfl rfl ?_
   refine W_indexAddr (b := q0) (o := p0) (j := i) (by rw [← eq0]; rfl) rfl ty61 ty78 rfl (by omega) rfl rfl ?_
   refine W_fieldAddr rfl fld78_0 zd rfl ?_
   refine W_load (v := .bool o.made) rfl ty4 rfl ((hcx 0 _ rfl).up ((show HSub _ H from zH).trans hHR)) rfl ?_
   refine W_not rfl rfl ?_
   refine W_nil ?_
   refine W_condPS (p := o.made = false) rfl (by simp) (fun c1 => ?_) (fun c1 => ?_)
   ·skip
    refine W_sr ?_
    refine W_assign rfl rfl ?_
    refine W_nil ?_
    refine W_ret1m (H2 := H) Tryz.results28 rfl (.nil _) zH ?_
    rw [stateR_at (by omega) ho, if_neg c0, if_pos c1]
    exact ⟨rfl, rfl⟩
   ·skip
    refine W_skip (W_seq (W_sr ?_))
    refine W_fieldAddr rfl fld63_0 zd rfl ?_
    refine W_load (v := .slice adb (S).length capb) rfl ty57 rfl (Cell.own (b := b2) zM rfl) rfl ?_
    refine W_move rfl rfl ?_
    refine W_callq (.cons rfl (.cons rfl .nil)) Tryz.call30 rfl (rbFind_q (S := S) (id := (i : Int)) hS ⟨adb, capb, Ds, rfl, hb.up ((show HSub _ H from zH).trans hHR)⟩ zO) ?_
    rcases findZ_ways S (i : Int) with ⟨kf, hfk, hfz⟩ | ⟨hfk, hfz⟩ <;> rw [hfz]
    ·skip
     refine W_bin rfl rfl b_geq rfl ?_
     first | rw [decide_eq_true (by omega)] | rw [decide_eq_false (by omega)]
     refine W_nil ?_
     refine W_condT rfl rfl ?_
     refine W_sr ?_
     refine W_assign rfl rfl ?_
     refine W_nil ?_
     refine W_ret1m (H2 := H) Tryz.results28 rfl (.nil _) zH ?_
     rw [stateR_at (by omega) ho, if_neg c0, if_neg c1, if_pos (by rw [hfk]; rfl)]
     exact ⟨rfl, rfl⟩
    ·skip
     refine W_bin rfl rfl b_geq rfl ?_
     first | rw [decide_eq_true (by omega)] | rw [decide_eq_false (by omega)]
     refine W_nil ?_
     refine W_condF rfl rfl ?_
     refine W_skip (W_sr ?_)
     refine W_fieldAddr rfl fld63_1 zd rfl ?_
     refine W_loadB (vs := [.int .i64 (n : Int), .slice ad1 (Q).length cap1, .slice ad2 (Rs).length cap2]) rfl ty60 rfl (b := b2) zM rfl rfl rfl ?_
     refine W_move rfl rfl ?_
     refine W_callq (.cons rfl (.cons rfl .nil)) Tryz.call71 rfl (dWhere_q (n := n) (cap1 := cap1) (cap2 := cap2) (Q := Q) (Rs := Rs) (ad1 := ad1) (ad2 := ad2) (id := (i : Int)) (by have := Q_len hq; omega) zO (hQ0.up ((show HSub _ H from zH).trans hHR)) (hR0.up ((show HSub _ H from zH).trans hHR))) ?_
     rcases hwq : whQ Q (i : Int) with _ | kq
     ·skip
      rw [show optV none = .tuple #[.int .i64 0, .bool false] from rfl]
      refine W_move rfl rfl ?_
      refine W_extract rfl rfl rfl ?_
      refine W_extract rfl rfl rfl ?_
      refine W_assign rfl rfl ?_
      refine W_assign rfl rfl ?_
      refine W_nil (W_seq (W_sr ?_))
      refine W_move rfl rfl ?_
      refine W_nil ?_
      refine W_condF rfl rfl ?_
      refine W_skip (W_sr ?_)
      refine W_assign rfl rfl ?_
      refine W_nil ?_
      refine W_ret1m (H2 := H) Tryz.results28 rfl (.nil _) zH ?_
      rw [stateR_at (by omega) ho, if_neg c0, if_neg c1, if_neg (by rw [hfk]; decide), if_neg (by rw [hwq]; decide)]
      exact ⟨rfl, rfl⟩
     ·skip
      rw [show optV (some kq) = .tuple #[.int .i64 kq, .bool true] from rfl]
      refine W_move rfl rfl ?_
      refine W_extract rfl rfl rfl ?_
      refine W_extract rfl rfl rfl ?_
      refine W_assign rfl rfl ?_
      refine W_assign rfl rfl ?_
      refine W_nil (W_seq (W_sr ?_))
      refine W_move rfl rfl ?_
      refine W_nil ?_
      refine W_condT rfl rfl ?_
      refine W_sr ?_
      refine W_assign rfl rfl ?_
      refine W_nil ?_
      refine W_ret1m (H2 := H) Tryz.results28 rfl (.nil _) zH ?_
      rw [stateR_at (by omega) ho, if_neg c0, if_neg c1, if_neg (by rw [hfk]; decide), if_pos (by rw [hwq]; rfl)]
      exact ⟨rfl, rfl⟩
 ·skip
  rw [decide_eq_false hi]
  refine W_not rfl rfl ?_
  refine W_nil ?_
  refine W_condT rfl rfl ?_
  refine W_sr ?_
  refine W_assign rfl rfl ?_
  refine W_nil ?_
  refine W_ret1m (H2 := H) Tryz.results28 rfl (.nil _) zH ?_
  rw [show stateR S Q As id = 0 from if_neg hi]
  exact ⟨rfl, rfl⟩
set_option maxRecDepth 100000
theorem dmNew_L {w0 : World} {H : Heap} {n now : Nat} (hn : n ≤ 64)  : LCalls Tryz.prog w0 22 #[.int .i64 (n : Int), .int .u64 ((now : Nat) : Int)] (H) (fun v H' => ∃ cs1 X, v = .agg (List.toArray cs1) ∧ DmV w0 X n (List.replicate n (now, [])) [] [] (List.replicate 256 zTone) cs1 ∧ H' = X ++ H) := by
 refine L_enter (l := [.int .i64 (n : Int), .int .u64 ((now : Nat) : Int)]) Tryz.func22 rfl Tryz.ntmps22 rfl rfl ?_
 refine W_sr ?_
 refine W_alloc (l := [.slice none 0 0, .int .i64 0, .slice none 0 0, .slice none 0 0, .slice none 0 0]) ty63 rfl rfl (fun b4 => ?_)
 refine W_nil (W_sr ?_)
 refine W_move rfl rfl ?_
 refine W_move rfl rfl ?_
 refine W_call (.cons rfl (.cons rfl .nil)) Tryz.call56 rfl (LCalls.hsub (rbNew_L (n := n) (now := now) hn (H := (b4, .cells 63 5 [.slice none 0 0, .int .i64 0, .slice none 0 0, .slice none 0 0, .slice none 0 0]) :: H)) zH) ?_
 rintro v H' ⟨X1, ⟨adw, capw, Ds, rfl, hb⟩, rfl⟩
 rw [List.length_replicate]
 refine W_move rfl rfl ?_
 refine W_build (l := [.int .i64 (n : Int), .slice none 0 0, .slice none 0 0]) ty60 pl60 (.cons rfl rfl rfl rfl rfl .nil) rfl rfl rfl ?_
 refine W_build (l := [.slice adw n capw, .int .i64 (n : Int), .slice none 0 0, .slice none 0 0, .slice none 0 0]) ty63 pl63 (.cons rfl rfl rfl rfl rfl (.cons rfl rfl rfl rfl rfl .nil)) rfl rfl rfl ?_
 refine W_alloc (l := [.slice none 0 0, .int .i64 0, .slice none 0 0, .slice none 0 0, .slice none 0 0]) ty63 rfl rfl (fun b5 => ?_)
 refine W_storeA (l' := [.slice adw n capw, .int .i64 (n : Int), .slice none 0 0, .slice none 0 0, .slice none 0 0]) rfl rfl ty63 rfl rfl (b := b5) zM (by exact Nat.le_refl 5) rfl zU ?_
 refine W_nil (W_seq (W_sr ?_))
 refine W_assign rfl rfl ?_
 refine W_nil (W_block ?_)
 refine W_loopC (X := (Nat × Value × Heap)) [(4, _), (5, _)] (fun (x : (Nat × Value × Heap)) => [(6, .int .i64 (x.1 : Int))]) (fun _ => _) (fun (x : (Nat × Value × Heap)) => x.2.2 ++ ((b5, .cells 63 5 [.slice adw n capw, .int .i64 (n : Int), .slice none 0 0, .slice none 0 0, x.2.1]) :: (X1 ++ ((b4, .cells 63 5 [.slice none 0 0, .int .i64 0, .slice none 0 0, .slice none 0 0, .slice none 0 0]) :: H)))) (fun (x : (Nat × Value × Heap)) => x.1 ≤ 256 ∧ OwnS 78 4 x.2.1 x.1 (onR (List.replicate x.1 zTone)) x.2.2) (fun (x : (Nat × Value × Heap)) => 256 - x.1) (0, .slice none 0 0, []) ⟨Nat.zero_le _, .nil⟩ (sub_cons rfl (sub_cons rfl (sub_nil _))) (sub_cons rfl (sub_nil _)) rfl zH ?_
 rintro ⟨i, v, X⟩ ⟨hi, hO⟩
 dsimp only at hi hO ⊢
 simp only [List.cons_append, List.nil_append]
 refine W_seq (W_sr ?_)
 refine W_move rfl rfl ?_
 refine W_bin rfl rfl b_lss rfl ?_
 refine W_nil ?_
 refine W_condPS (p := (i : Int) < 256) rfl (by simp) (fun q0 => ?_) (fun q0 => ?_)
 ·skip
  refine W_skip (W_seq (W_block ?_))
  refine W_region ?_
  refine W_fieldAddr rfl fld63_2 zd rfl ?_
  refine W_load (v := v) rfl ty61 rfl (Cell.own (b := b5) zM rfl) rfl ?_
  refine W_build (l := oneR zTone) ty78 pl78 (.cons rfl rfl rfl rfl rfl .nil) rfl rfl rfl ?_
  refine W_buildSlice (l := oneR zTone) ty61 ty78 (.cons rfl rfl rfl rfl rfl .nil) rfl rfl rfl rfl rfl rfl rfl (fun b20 => ?_)
  refine W_append (news := oneR zTone) (m := 1) (HB := X) (H0 := (b20, .cells 78 4 (oneR zTone)) :: (b5, .cells 63 5 [.slice adw n capw, .int .i64 (n : Int), .slice none 0 0, .slice none 0 0, v]) :: (X1 ++ ((b4, .cells 63 5 [.slice none 0 0, .int .i64 0, .slice none 0 0, .slice none 0 0, .slice none 0 0]) :: H))) rfl rfl ty61 ty78 rfl (by decide) hO rfl (Holds.own zM) rfl (by simp only [maxLen]; omega) (by omega) zH rfl (fun v' X' hO' => ?_)
  refine W_fieldAddr rfl fld63_2 zd rfl ?_
  obtain ⟨adv, capv, rfl, hcv, _⟩ := hO'.shape
  refine W_store (l' := [.slice adw n capw, .int .i64 (n : Int), .slice none 0 0, .slice none 0 0, .slice adv (i + 1) capv]) rfl rfl ty61 rfl rfl (b := b5) zM rfl rfl zU ?_
  refine W_nil ?_
  refine W_blk ?_
  refine W_region ?_
  refine W_move rfl rfl ?_
  refine W_bin rfl rfl (b_add (m := ((i + 1 : Nat) : Int)) ((i64w zO).trans zO)) rfl ?_
  refine W_assign rfl rfl ?_
  refine W_nil ?_
  refine W_again (i + 1, .slice adv (i + 1) capv, X') ⟨by show i + 1 ≤ 256; omega, by show OwnS _ _ _ _ (List.flatMap oneR (List.replicate (i + 1) zTone)) _; rw [repl_snoc, List.flatMap_append]; exact hO'⟩ (by show 256 - (i + 1) < 256 - i; omega) (sub_cons rfl (sub_cons rfl (sub_cons rfl (sub_nil _)))) rfl zH
 ·skip
  refine W_exit rfl ?_
  refine W_sr ?_
  obtain ⟨adv, capv, rfl, hcv, _⟩ := hO.shape
  refine W_loadB (vs := [.slice adw n capw, .int .i64 (n : Int), .slice none 0 0, .slice none 0 0, .slice adv i capv]) rfl ty63 rfl (b := b5) zM rfl rfl rfl ?_
  refine W_storeA (l' := [.slice adw n capw, .int .i64 (n : Int), .slice none 0 0, .slice none 0 0, .slice adv i capv]) rfl rfl ty63 rfl rfl (b := b4) zM (by exact Nat.le_refl 5) rfl zU ?_
  refine W_nil ?_
  refine W_ret1cO (H2 := X ++ (X1 ++ H)) Tryz.results22 rfl (.nil _) ty63 rfl zM rfl zH ?_
  obtain rfl : i = 256 := by omega
  have hh := OwnS.holds (w0 := w0) (H := X ++ X1) hO (fun p hp => List.mem_append_left _ hp)
  exact ⟨_, X ++ X1, rfl, ⟨adw, capw, Ds, none, 0, none, 0, adv, capv, by rw [List.length_replicate, List.length_replicate]; rfl, hb.up (.dropS (.refl _)), Nat.zero_le _, Nat.zero_le _, Holds.nil, Holds.nil, hh, by rw [List.length_replicate]; exact hcv⟩, by rw [List.append_assoc]⟩
theorem StOk.delOne {S : St} (h : StOk S) (id : Int) : StOk (delOne S id) := by
 unfold Go.Proofs.YtcmfldfeakmdoaaGreatDoor.delOne
 cases hf : findS S id with
 | none => exact h
 | some k =>
  dsimp only
  cases hx : S[k]? with
  | none => exact h
  | some x =>
   intro y hy
   rcases List.mem_or_eq_of_mem_set hy with hy | rfl
   ·exact h y hy
   ·have hk := h x (List.mem_of_getElem? hx)
    have hs : (delT x.2 id).Sublist x.2 := List.filter_sublist
    exact ⟨Nat.le_trans hs.length_le hk.len, hk.now, hk.ids.sublist (hs.map _), hk.asc.sublist hs, fun t ht => hk.later t (hs.subset ht)⟩
theorem delOne_len {S : St} (id : Int) : (delOne S id).length = S.length := by
 unfold delOne
 split
 ·rfl
 ·split
  ·rfl
  ·exact List.length_set
def startR (S : St) (Q : List (Int × Int)) (As : List Tone) (tn : Nat) (id cpu : Int) (a : Nat) : St × List (Int × Int) × List Tone × Spot × Int :=
 if ¬ (0 ≤ id ∧ id < 256) ∨ cpu < 0 ∨ (S.length : Int) ≤ cpu then (S, Q, As, zSpot, 2)
 else match As[id.toNat]?, S[cpu.toNat]? with
  | some o, some x => if o.shut = true then (S, Q, As, zSpot, 22) else if o.made = false ∨ o.prog ≤ 0 then (S, Q, As, zSpot, 1) else if x.1 = 18446744073709551615 then (S, Q, As, zSpot, 12)
   else ((putS (delOne S id) tn cpu id a).1, delQ Q id, As.set id.toNat { o with starts := o.starts + 1 }, (putS (delOne S id) tn cpu id a).2.1, (putS (delOne S id) tn cpu id a).2.2)
  | _, _ => (S, Q, As, zSpot, 2)
theorem startR_at {S : St} {Q : List (Int × Int)} {As : List Tone} {tn i k a : Nat} {o : Tone} {x : Nat × List Tm} (hi : i < 256) (ho : As[i]? = some o) (hx : S[k]? = some x) : startR S Q As tn (i : Int) (k : Int) a = if o.shut = true then (S, Q, As, zSpot, 22) else if o.made = false ∨ o.prog ≤ 0 then (S, Q, As, zSpot, 1) else if x.1 = 18446744073709551615 then (S, Q, As, zSpot, 12)
   else ((putS (delOne S (i : Int)) tn (k : Int) (i : Int) a).1, delQ Q (i : Int), As.set i { o with starts := o.starts + 1 }, (putS (delOne S (i : Int)) tn (k : Int) (i : Int) a).2.1, (putS (delOne S (i : Int)) tn (k : Int) (i : Int) a).2.2) := by
 have hk := (List.getElem?_eq_some_iff.1 hx).1
 unfold startR; rw [if_neg (by omega), show ((i : Nat) : Int).toNat = i by omega, show ((k : Nat) : Int).toNat = k by omega, ho, hx]
theorem dmStart_L {w0 : World} {H : Heap} {HR : Heap} {n : Nat} {S : St} {Q Rs : List (Int × Int)} {As : List Tone} {cs : List Value} (hv : DmV w0 HR n S Q Rs As cs) (hHR : HSub H HR) (hok : DOk n S Q Rs As) {tn a : Nat} {id cpu : Int} (ha : a ≤ 18446744073709551615) (hst : ∀ o ∈ As, 0 ≤ o.starts ∧ o.starts ≤ 1000000000)  : LCalls Tryz.prog w0 59 #[.agg (List.toArray cs), .int .i64 id, .int .i64 cpu, .int .u64 ((a : Nat) : Int)] (H) (fun v H' => ∃ cs1 X, v = .tuple #[.agg (List.toArray cs1), .agg (Spot.v (startR S Q As tn id cpu a).2.2.2.1).toArray, .int .i64 (startR S Q As tn id cpu a).2.2.2.2] ∧ DmV w0 (X ++ HR) n ((startR S Q As tn id cpu a).1) ((startR S Q As tn id cpu a).2.1) (Rs) ((startR S Q As tn id cpu a).2.2.1) cs1 ∧ H' = X ++ H) := by
 obtain ⟨adb, capb, Ds, ad1, cap1, ad2, cap2, ad3, cap3, rfl, hb, hc1, hc2, hQ0, hR0, hA0, hc3⟩ := hv
 obtain ⟨hS, hSn, hSl, hq, hrl, hA⟩ := hok
 refine L_enter (l := [.agg (List.toArray [.slice adb (S).length capb, .int .i64 (n : Int), .slice ad1 (Q).length cap1, .slice ad2 (Rs).length cap2, .slice ad3 (As).length cap3]), .int .i64 id, .int .i64 cpu, .int .u64 ((a : Nat) : Int)]) Tryz.func59 rfl Tryz.ntmps59 rfl rfl ?_
 refine W_sr ?_
 refine W_box (l := [.slice adb (S).length capb, .int .i64 (n : Int), .slice ad1 (Q).length cap1, .slice ad2 (Rs).length cap2, .slice ad3 (As).length cap3]) rfl rfl rfl (fun b4 => ?_)
 refine W_alloc (l := [.slice none 0 0, .int .i64 0, .slice none 0 0, .slice none 0 0, .slice none 0 0]) ty63 rfl rfl (fun b8 => ?_)
 refine W_alloc (l := zSpot.v) ty70 rfl rfl (fun b9 => ?_)
 refine W_assign rfl rfl ?_
 refine W_nil (W_seq (W_sr ?_))
 refine W_move rfl rfl ?_
 refine W_callp (.cons rfl .nil) Tryz.call70 rfl (T := fun _ => True) trivial dis_pure ?_
 rcases (show ¬ (0 ≤ id ∧ id < 256) ∨ (0 ≤ id ∧ id < 256) ∧ cpu < 0 ∨ (0 ≤ id ∧ id < 256) ∧ 0 ≤ cpu ∧ (S.length : Int) ≤ cpu ∨ (0 ≤ id ∧ id < 256) ∧ 0 ≤ cpu ∧ cpu < (S.length : Int) by omega) with hi | ⟨hi, hp⟩ | ⟨hi, hp⟩ | ⟨hi, hp⟩
 ·skip
  rw [decide_eq_false hi]
  refine W_not rfl rfl ?_
  refine W_move rfl rfl ?_
  refine W_gno rfl rfl rfl ?_
  refine W_gno rfl rfl rfl ?_
  first | refine W_pickt rfl rfl rfl ?_ | refine W_pickf rfl rfl rfl ?_
  refine W_move rfl rfl ?_
  refine W_gno rfl rfl rfl ?_
  refine W_gno rfl rfl rfl ?_
  refine W_gno rfl rfl rfl ?_
  refine W_gno rfl rfl rfl ?_
  refine W_gno rfl rfl rfl ?_
  first | refine W_pickt rfl rfl rfl ?_ | refine W_pickf rfl rfl rfl ?_
  refine W_nil ?_
  refine W_condT rfl rfl ?_
  refine W_sr ?_
  refine W_loadB (vs := [.slice adb (S).length capb, .int .i64 (n : Int), .slice ad1 (Q).length cap1, .slice ad2 (Rs).length cap2, .slice ad3 (As).length cap3]) rfl ty63 rfl (b := b4) zM rfl rfl rfl ?_
  refine W_build (l := zSpot.v) ty70 pl70 .nil rfl rfl rfl ?_
  refine W_storeA (l' := [.slice adb (S).length capb, .int .i64 (n : Int), .slice ad1 (Q).length cap1, .slice ad2 (Rs).length cap2, .slice ad3 (As).length cap3]) rfl rfl ty63 rfl rfl (b := b8) zM (by exact Nat.le_refl 5) rfl zU ?_
  refine W_storeA (l' := zSpot.v) rfl rfl ty70 rfl rfl (b := b9) zM (by exact Nat.le_refl 4) rfl zU ?_
  refine W_assign rfl rfl ?_
  refine W_nil ?_
  refine W_ret3G (H2 := H) Tryz.results59 (.nil _) (.own rfl ty63 rfl zM rfl) (.own rfl ty70 rfl zM rfl) (.tmp rfl) zH ?_
  rw [show startR S Q As tn id cpu a = (S, Q, As, zSpot, 2) from if_pos (by omega)]
  exact ⟨_, [], rfl, ⟨adb, capb, Ds, ad1, cap1, ad2, cap2, ad3, cap3, rfl, hb, hc1, hc2, hQ0, hR0, hA0, hc3⟩, rfl⟩
 ·skip
  rw [decide_eq_true hi]
  refine W_not rfl rfl ?_
  refine W_move rfl rfl ?_
  refine W_gyes rfl rfl ?_
  refine W_move rfl rfl ?_
  refine W_gyes rfl rfl ?_
  refine W_bin rfl rfl b_lss rfl ?_
  first | rw [decide_eq_true (by omega)] | rw [decide_eq_false (by omega)]
  first | refine W_pickt rfl rfl rfl ?_ | refine W_pickf rfl rfl rfl ?_
  refine W_move rfl rfl ?_
  refine W_gno rfl rfl rfl ?_
  refine W_gno rfl rfl rfl ?_
  refine W_gno rfl rfl rfl ?_
  refine W_gno rfl rfl rfl ?_
  refine W_gno rfl rfl rfl ?_
  first | refine W_pickt rfl rfl rfl ?_ | refine W_pickf rfl rfl rfl ?_
  refine W_nil ?_
  refine W_condT rfl rfl ?_
  refine W_sr ?_
  refine W_loadB (vs := [.slice adb (S).length capb, .int .i64 (n : Int), .slice ad1 (Q).length cap1, .slice ad2 (Rs).length cap2, .slice ad3 (As).length cap3]) rfl ty63 rfl (b := b4) zM rfl rfl rfl ?_
  refine W_build (l := zSpot.v) ty70 pl70 .nil rfl rfl rfl ?_
  refine W_storeA (l' := [.slice adb (S).length capb, .int .i64 (n : Int), .slice ad1 (Q).length cap1, .slice ad2 (Rs).length cap2, .slice ad3 (As).length cap3]) rfl rfl ty63 rfl rfl (b := b8) zM (by exact Nat.le_refl 5) rfl zU ?_
  refine W_storeA (l' := zSpot.v) rfl rfl ty70 rfl rfl (b := b9) zM (by exact Nat.le_refl 4) rfl zU ?_
  refine W_assign rfl rfl ?_
  refine W_nil ?_
  refine W_ret3G (H2 := H) Tryz.results59 (.nil _) (.own rfl ty63 rfl zM rfl) (.own rfl ty70 rfl zM rfl) (.tmp rfl) zH ?_
  rw [show startR S Q As tn id cpu a = (S, Q, As, zSpot, 2) from if_pos (by omega)]
  exact ⟨_, [], rfl, ⟨adb, capb, Ds, ad1, cap1, ad2, cap2, ad3, cap3, rfl, hb, hc1, hc2, hQ0, hR0, hA0, hc3⟩, rfl⟩
 ·skip
  rw [decide_eq_true hi]
  refine W_not rfl rfl ?_
  refine W_move rfl rfl ?_
  refine W_gyes rfl rfl ?_
  refine W_move rfl rfl ?_
  refine W_gyes rfl rfl ?_
  refine W_bin rfl rfl b_lss rfl ?_
  first | rw [decide_eq_true (by omega)] | rw [decide_eq_false (by omega)]
  first | refine W_pickt rfl rfl rfl ?_ | refine W_pickf rfl rfl rfl ?_
  refine W_move rfl rfl ?_
  refine W_gyes rfl rfl ?_
  refine W_move rfl rfl ?_
  refine W_gyes rfl rfl ?_
  refine W_fieldAddr rfl fld63_0 zd rfl ?_
  refine W_gyes rfl rfl ?_
  refine W_load (v := .slice adb (S).length capb) rfl ty57 rfl (Cell.own (b := b4) zM rfl) rfl ?_
  refine W_gyes rfl rfl ?_
  refine W_len rfl ty57 rfl rfl ?_
  refine W_gyes rfl rfl ?_
  refine W_bin rfl rfl b_geq rfl ?_
  first | rw [decide_eq_true (by omega)] | rw [decide_eq_false (by omega)]
  first | refine W_pickt rfl rfl rfl ?_ | refine W_pickf rfl rfl rfl ?_
  refine W_nil ?_
  refine W_condT rfl rfl ?_
  refine W_sr ?_
  refine W_loadB (vs := [.slice adb (S).length capb, .int .i64 (n : Int), .slice ad1 (Q).length cap1, .slice ad2 (Rs).length cap2, .slice ad3 (As).length cap3]) rfl ty63 rfl (b := b4) zM rfl rfl rfl ?_
  refine W_build (l := zSpot.v) ty70 pl70 .nil rfl rfl rfl ?_
  refine W_storeA (l' := [.slice adb (S).length capb, .int .i64 (n : Int), .slice ad1 (Q).length cap1, .slice ad2 (Rs).length cap2, .slice ad3 (As).length cap3]) rfl rfl ty63 rfl rfl (b := b8) zM (by exact Nat.le_refl 5) rfl zU ?_
  refine W_storeA (l' := zSpot.v) rfl rfl ty70 rfl rfl (b := b9) zM (by exact Nat.le_refl 4) rfl zU ?_
  refine W_assign rfl rfl ?_
  refine W_nil ?_
  refine W_ret3G (H2 := H) Tryz.results59 (.nil _) (.own rfl ty63 rfl zM rfl) (.own rfl ty70 rfl zM rfl) (.tmp rfl) zH ?_
  rw [show startR S Q As tn id cpu a = (S, Q, As, zSpot, 2) from if_pos (by omega)]
  exact ⟨_, [], rfl, ⟨adb, capb, Ds, ad1, cap1, ad2, cap2, ad3, cap3, rfl, hb, hc1, hc2, hQ0, hR0, hA0, hc3⟩, rfl⟩
 ·skip
  rw [decide_eq_true hi]
  obtain ⟨i, rfl⟩ : ∃ i : Nat, id = (i : Int) := ⟨id.toNat, by omega⟩
  obtain ⟨o, ho⟩ : ∃ o, As[i]? = some o := ⟨_, List.getElem?_eq_getElem zO⟩
  obtain ⟨q0, p0, eq0, hcx⟩ := Holds.row oneR_len zd hA0 ho
  obtain ⟨k, rfl⟩ : ∃ k : Nat, cpu = (k : Int) := ⟨cpu.toNat, by omega⟩
  have hDl : Ds.length = S.length := by rw [← hb.st, List.length_map]
  obtain ⟨d, hd⟩ : ∃ d, Ds[k]? = some d := ⟨_, List.getElem?_eq_getElem zO⟩
  obtain ⟨q1, p1, eq1, hcw⟩ := Holds.row rwC_len zd hb.row hd
  have hSk : S[k]? = some d.nl := by rw [← hb.st, List.getElem?_map, hd]; rfl
  refine W_not rfl rfl ?_
  refine W_move rfl rfl ?_
  refine W_gyes rfl rfl ?_
  refine W_move rfl rfl ?_
  refine W_gyes rfl rfl ?_
  refine W_bin rfl rfl b_lss rfl ?_
  first | rw [decide_eq_true (by omega)] | rw [decide_eq_false (by omega)]
  first | refine W_pickt rfl rfl rfl ?_ | refine W_pickf rfl rfl rfl ?_
  refine W_move rfl rfl ?_
  refine W_gyes rfl rfl ?_
  refine W_move rfl rfl ?_
  refine W_gyes rfl rfl ?_
  refine W_fieldAddr rfl fld63_0 zd rfl ?_
  refine W_gyes rfl rfl ?_
  refine W_load (v := .slice adb (S).length capb) rfl ty57 rfl (Cell.own (b := b4) zM rfl) rfl ?_
  refine W_gyes rfl rfl ?_
  refine W_len rfl ty57 rfl rfl ?_
  refine W_gyes rfl rfl ?_
  refine W_bin rfl rfl b_geq rfl ?_
  first | rw [decide_eq_true (by omega)] | rw [decide_eq_false (by omega)]
  first | refine W_pickt rfl rfl rfl ?_ | refine W_pickf rfl rfl rfl ?_
  refine W_nil ?_
  refine W_condF rfl rfl ?_
  refine W_skip (W_sr ?_)
  refine W_fieldAddr rfl fld63_2 zd rfl ?_
  refine W_load (v := .slice ad3 (As).length cap3) rfl ty61 rfl (Cell.own (b := b4) zM rfl) rfl ?_
  refine W_move rfl rfl ?_
  refine W_indexAddr (b := q0) (o := p0) (j := i) (by rw [← eq0]; rfl) rfl ty61 ty78 rfl (by omega) rfl rfl ?_
  refine W_loadA (vs := oneR o) rfl ty78 rfl rfl (hcx.up ((show HSub _ H from zH).trans hHR)) rfl ?_
  refine W_alloc (l := [.bool false, .bool false, .int .i64 0, .int .i64 0]) ty78 rfl rfl (fun b11 => ?_)
  refine W_storeA (l' := oneR o) rfl rfl ty78 rfl rfl (b := b11) zM (by exact Nat.le_refl 4) rfl zU ?_
  refine W_nil (W_seq (W_sr ?_))
  refine W_fieldAddr rfl fld78_1 zd rfl ?_
  refine W_load (v := .bool o.shut) rfl ty4 rfl (Cell.own (b := b11) zM rfl) rfl ?_
  refine W_nil ?_
  refine W_condPS (p := o.shut = true) rfl (by simp) (fun c0 => ?_) (fun c0 => ?_)
  ·skip
   refine W_sr ?_
   refine W_loadB (vs := [.slice adb (S).length capb, .int .i64 (n : Int), .slice ad1 (Q).length cap1, .slice ad2 (Rs).length cap2, .slice ad3 (As).length cap3]) rfl ty63 rfl (b := b4) zM rfl rfl rfl ?_
   refine W_build (l := zSpot.v) ty70 pl70 .nil rfl rfl rfl ?_
   refine W_storeA (l' := [.slice adb (S).length capb, .int .i64 (n : Int), .slice ad1 (Q).length cap1, .slice ad2 (Rs).length cap2, .slice ad3 (As).length cap3]) rfl rfl ty63 rfl rfl (b := b8) zM (by exact Nat.le_refl 5) rfl zU ?_
   refine W_storeA (l' := zSpot.v) rfl rfl ty70 rfl rfl (b := b9) zM (by exact Nat.le_refl 4) rfl zU ?_
   refine W_assign rfl rfl ?_
   refine W_nil ?_
   refine W_ret3G (H2 := H) Tryz.results59 (.nil _) (.own rfl ty63 rfl zM rfl) (.own rfl ty70 rfl zM rfl) (.tmp rfl) zH ?_
   rw [startR_at (by omega) ho hSk, if_pos c0]
   exact ⟨_, [], rfl, ⟨adb, capb, Ds, ad1, cap1, ad2, cap2, ad3, cap3, rfl, hb, hc1, hc2, hQ0, hR0, hA0, hc3⟩, rfl⟩
  ·skip
   refine W_skip (W_seq (W_sr ?_))
   refine W_fieldAddr rfl fld78_0 zd rfl ?_
   refine W_load (v := .bool o.made) rfl ty4 rfl (Cell.own (b := b11) zM rfl) rfl ?_
   rcases (show o.made = false ∨ (o.made = true ∧ o.prog ≤ 0) ∨ (o.made = true ∧ 0 < o.prog) by cases o.made <;> simp <;> omega) with hm | ⟨hm, hpz⟩ | ⟨hm, hpz⟩ <;> rw [hm]
   ·skip
    refine W_not rfl rfl ?_
    refine W_move rfl rfl ?_
    refine W_gno rfl rfl rfl ?_
    refine W_gno rfl rfl rfl ?_
    refine W_gno rfl rfl rfl ?_
    first | refine W_pickt rfl rfl rfl ?_ | refine W_pickf rfl rfl rfl ?_
    refine W_nil ?_
    refine W_condT rfl rfl ?_
    refine W_sr ?_
    refine W_loadB (vs := [.slice adb (S).length capb, .int .i64 (n : Int), .slice ad1 (Q).length cap1, .slice ad2 (Rs).length cap2, .slice ad3 (As).length cap3]) rfl ty63 rfl (b := b4) zM rfl rfl rfl ?_
    refine W_build (l := zSpot.v) ty70 pl70 .nil rfl rfl rfl ?_
    refine W_storeA (l' := [.slice adb (S).length capb, .int .i64 (n : Int), .slice ad1 (Q).length cap1, .slice ad2 (Rs).length cap2, .slice ad3 (As).length cap3]) rfl rfl ty63 rfl rfl (b := b8) zM (by exact Nat.le_refl 5) rfl zU ?_
    refine W_storeA (l' := zSpot.v) rfl rfl ty70 rfl rfl (b := b9) zM (by exact Nat.le_refl 4) rfl zU ?_
    refine W_assign rfl rfl ?_
    refine W_nil ?_
    refine W_ret3G (H2 := H) Tryz.results59 (.nil _) (.own rfl ty63 rfl zM rfl) (.own rfl ty70 rfl zM rfl) (.tmp rfl) zH ?_
    rw [startR_at (by omega) ho hSk, if_neg c0, if_pos (.inl hm)]
    exact ⟨_, [], rfl, ⟨adb, capb, Ds, ad1, cap1, ad2, cap2, ad3, cap3, rfl, hb, hc1, hc2, hQ0, hR0, hA0, hc3⟩, rfl⟩
   ·skip
    refine W_not rfl rfl ?_
    refine W_move rfl rfl ?_
    refine W_gyes rfl rfl ?_
    refine W_fieldAddr rfl fld78_2 zd rfl ?_
    refine W_gyes rfl rfl ?_
    refine W_load (v := .int .i64 (o.prog - 1)) rfl ty3 rfl (Cell.own (b := b11) zM rfl) rfl ?_
    refine W_gyes rfl rfl ?_
    refine W_bin rfl rfl b_lss rfl ?_
    first | rw [decide_eq_true (by omega)] | rw [decide_eq_false (by omega)]
    first | refine W_pickt rfl rfl rfl ?_ | refine W_pickf rfl rfl rfl ?_
    refine W_nil ?_
    refine W_condT rfl rfl ?_
    refine W_sr ?_
    refine W_loadB (vs := [.slice adb (S).length capb, .int .i64 (n : Int), .slice ad1 (Q).length cap1, .slice ad2 (Rs).length cap2, .slice ad3 (As).length cap3]) rfl ty63 rfl (b := b4) zM rfl rfl rfl ?_
    refine W_build (l := zSpot.v) ty70 pl70 .nil rfl rfl rfl ?_
    refine W_storeA (l' := [.slice adb (S).length capb, .int .i64 (n : Int), .slice ad1 (Q).length cap1, .slice ad2 (Rs).length cap2, .slice ad3 (As).length cap3]) rfl rfl ty63 rfl rfl (b := b8) zM (by exact Nat.le_refl 5) rfl zU ?_
    refine W_storeA (l' := zSpot.v) rfl rfl ty70 rfl rfl (b := b9) zM (by exact Nat.le_refl 4) rfl zU ?_
    refine W_assign rfl rfl ?_
    refine W_nil ?_
    refine W_ret3G (H2 := H) Tryz.results59 (.nil _) (.own rfl ty63 rfl zM rfl) (.own rfl ty70 rfl zM rfl) (.tmp rfl) zH ?_
    rw [startR_at (by omega) ho hSk, if_neg c0, if_pos (.inr hpz)]
    exact ⟨_, [], rfl, ⟨adb, capb, Ds, ad1, cap1, ad2, cap2, ad3, cap3, rfl, hb, hc1, hc2, hQ0, hR0, hA0, hc3⟩, rfl⟩
   ·skip
    refine W_not rfl rfl ?_
    refine W_move rfl rfl ?_
    refine W_gyes rfl rfl ?_
    refine W_fieldAddr rfl fld78_2 zd rfl ?_
    refine W_gyes rfl rfl ?_
    refine W_load (v := .int .i64 (o.prog - 1)) rfl ty3 rfl (Cell.own (b := b11) zM rfl) rfl ?_
    refine W_gyes rfl rfl ?_
    refine W_bin rfl rfl b_lss rfl ?_
    first | rw [decide_eq_true (by omega)] | rw [decide_eq_false (by omega)]
    first | refine W_pickt rfl rfl rfl ?_ | refine W_pickf rfl rfl rfl ?_
    refine W_nil ?_
    refine W_condF rfl rfl ?_
    refine W_skip (W_seq (W_sr ?_))
    refine W_fieldAddr rfl fld63_0 zd rfl ?_
    refine W_load (v := .slice adb (S).length capb) rfl ty57 rfl (Cell.own (b := b4) zM rfl) rfl ?_
    refine W_move rfl rfl ?_
    refine W_indexAddr (b := q1) (o := p1) (j := k) (by rw [← eq1]; rfl) rfl ty57 ty76 rfl (by omega) rfl rfl ?_
    refine W_fieldAddr rfl fld76_0 zd rfl ?_
    refine W_load (v := .int .u64 ((d.now : Nat) : Int)) rfl ty22 rfl ((hcw 0 _ rfl).up ((show HSub _ H from zH).trans hHR)) rfl ?_
    refine W_bin rfl rfl b_eql rfl ?_
    refine W_nil ?_
    refine W_condPS (p := ((d.now : Nat) : Int) = 18446744073709551615) rfl (by simp) (fun c1 => ?_) (fun c1 => ?_)
    ·skip
     refine W_sr ?_
     refine W_loadB (vs := [.slice adb (S).length capb, .int .i64 (n : Int), .slice ad1 (Q).length cap1, .slice ad2 (Rs).length cap2, .slice ad3 (As).length cap3]) rfl ty63 rfl (b := b4) zM rfl rfl rfl ?_
     refine W_build (l := zSpot.v) ty70 pl70 .nil rfl rfl rfl ?_
     refine W_storeA (l' := [.slice adb (S).length capb, .int .i64 (n : Int), .slice ad1 (Q).length cap1, .slice ad2 (Rs).length cap2, .slice ad3 (As).length cap3]) rfl rfl ty63 rfl rfl (b := b8) zM (by exact Nat.le_refl 5) rfl zU ?_
     refine W_storeA (l' := zSpot.v) rfl rfl ty70 rfl rfl (b := b9) zM (by exact Nat.le_refl 4) rfl zU ?_
     refine W_assign rfl rfl ?_
     refine W_nil ?_
     refine W_ret3G (H2 := H) Tryz.results59 (.nil _) (.own rfl ty63 rfl zM rfl) (.own rfl ty70 rfl zM rfl) (.tmp rfl) zH ?_
     have c1 : d.nl.1 = 18446744073709551615 := by show d.now = _; omega
     rw [startR_at (by omega) ho hSk, if_neg c0, if_neg (by rintro (h | h); (rw [hm] at h; cases h); omega), if_pos c1]
     exact ⟨_, [], rfl, ⟨adb, capb, Ds, ad1, cap1, ad2, cap2, ad3, cap3, rfl, hb, hc1, hc2, hQ0, hR0, hA0, hc3⟩, rfl⟩
    ·skip
     refine W_skip (W_sr ?_)
     refine W_loadB (vs := [.slice adb (S).length capb, .int .i64 (n : Int), .slice ad1 (Q).length cap1, .slice ad2 (Rs).length cap2, .slice ad3 (As).length cap3]) rfl ty63 rfl (b := b4) zM rfl rfl rfl ?_
     refine W_move rfl rfl ?_
     refine W_call (.cons rfl (.cons rfl .nil)) Tryz.call94 rfl (LCalls.hsub (dmTake_L (S := S) (Q := Q) (Rs := Rs) (As := As) (n := n) (id := (i : Int)) ⟨adb, capb, Ds, ad1, cap1, ad2, cap2, ad3, cap3, rfl, hb, hc1, hc2, hQ0, hR0, hA0, hc3⟩ ((show HSub _ H from zH).trans hHR) ⟨hS, hSn, hSl, hq, hrl, hA⟩ (H := (b4, .cells 63 5 [.slice adb (S).length capb, .int .i64 (n : Int), .slice ad1 (Q).length cap1, .slice ad2 (Rs).length cap2, .slice ad3 (As).length cap3]) :: (b8, .cells 63 5 [.slice none 0 0, .int .i64 0, .slice none 0 0, .slice none 0 0, .slice none 0 0]) :: (b9, .cells 70 4 zSpot.v) :: (b11, .cells 78 4 (oneR o)) :: H)) zH) ?_
     rintro v H' ⟨cs1, X1, rfl, ⟨ade, cape, Es, ad8, cap8, ad9, cap9, ad10, cap10, rfl, hbt, j1, j2, hQt, hRt, hAt, j3⟩, rfl⟩
     refine W_move rfl rfl ?_
     refine W_extract rfl rfl rfl ?_
     refine W_extract rfl rfl rfl ?_
     refine W_storeA (l' := [.slice ade (delOne S (i : Int)).length cape, .int .i64 (n : Int), .slice ad8 (delQ Q (i : Int)).length cap8, .slice ad9 (Rs).length cap9, .slice ad10 (As).length cap10]) rfl rfl ty63 rfl rfl (b := b4) zM (by exact Nat.le_refl 5) rfl zU ?_
     refine W_nil (W_sr ?_)
     refine W_fieldAddr rfl fld78_3 zd rfl ?_
     refine W_load (v := .int .i64 o.starts) rfl ty3 rfl (Cell.own (b := b11) zM rfl) rfl ?_
     refine W_bin rfl rfl (b_add (m := o.starts + 1) (i64w (by have := hst o (List.mem_of_getElem? ho); omega))) rfl ?_
     refine W_fieldAddr rfl fld78_3 zd rfl ?_
     refine W_store (l' := oneR { o with starts := o.starts + 1 }) rfl rfl ty3 rfl rfl (b := b11) zM rfl rfl zU ?_
     refine W_nil (W_sr ?_)
     refine W_fieldAddr rfl fld63_0 zd rfl ?_
     refine W_load (v := .slice ade (delOne S (i : Int)).length cape) rfl ty57 rfl (Cell.own (b := b4) zM rfl) rfl ?_
     refine W_move rfl rfl ?_
     refine W_move rfl rfl ?_
     refine W_move rfl rfl ?_
     refine W_call (.cons rfl (.cons rfl (.cons rfl (.cons rfl .nil)))) Tryz.call95 rfl (LCalls.hsub (rbPut_L (HR := X1 ++ HR) (S := delOne S (i : Int)) (tn := tn) (a := a) (cpu := (k : Int)) (id := (i : Int)) (hS.delOne _) ⟨ade, cape, Es, rfl, hbt⟩ ((show HSub _ (X1 ++ H) from zH).trans (.app (.here _) hHR)) (by rw [delOne_len]; omega) ha (H := (b4, .cells 63 5 [.slice ade (delOne S (i : Int)).length cape, .int .i64 (n : Int), .slice ad8 (delQ Q (i : Int)).length cap8, .slice ad9 (Rs).length cap9, .slice ad10 (As).length cap10]) :: (b8, .cells 63 5 [.slice none 0 0, .int .i64 0, .slice none 0 0, .slice none 0 0, .slice none 0 0]) :: (b9, .cells 70 4 zSpot.v) :: (b11, .cells 78 4 (oneR { o with starts := o.starts + 1 })) :: (X1 ++ H))) zH) ?_
     rintro v H' ⟨v1, X2, rfl, hbp, rfl⟩
     rcases hput : putS (delOne S (i : Int)) tn (k : Int) (i : Int) a with ⟨S2, s2, e2⟩
     rw [hput] at hbp
     dsimp only at hbp ⊢
     obtain ⟨adf, capf, Fs, rfl, hbq⟩ := hbp
     refine W_move rfl rfl ?_
     refine W_extract rfl rfl rfl ?_
     refine W_extract rfl rfl rfl ?_
     refine W_extract rfl rfl rfl ?_
     refine W_alloc (l := zSpot.v) ty70 rfl rfl (fun b13 => ?_)
     refine W_assign rfl rfl ?_
     refine W_storeA (l' := s2.v) rfl rfl ty70 rfl rfl (b := b13) zM (by exact Nat.le_refl 4) rfl zU ?_
     refine W_assign rfl rfl ?_
     refine W_nil (W_sr ?_)
     refine W_move rfl rfl ?_
     refine W_fieldAddr rfl fld63_0 zd rfl ?_
     refine W_store (l' := [.slice adf S2.length capf, .int .i64 (n : Int), .slice ad8 (delQ Q (i : Int)).length cap8, .slice ad9 (Rs).length cap9, .slice ad10 (As).length cap10]) rfl rfl ty57 rfl rfl (b := b4) zM rfl rfl zU ?_
     refine W_nil (W_seq ?_)
     refine W_anyC [(b4, .cells 63 5 [.slice adf S2.length capf, .int .i64 (n : Int), .slice ad8 (delQ Q (i : Int)).length cap8, .slice ad9 (Rs).length cap9, .slice ad10 (As).length cap10]), (b11, .cells 78 4 (oneR { o with starts := o.starts + 1 })), (b13, .cells 70 4 s2.v)] zk ?_
     refine WC_take 0 (l' := #[true, false, false, false, false, false, false, false, false]) rfl zK zK zK rfl zK (X_loadB (vs := [.slice adf S2.length capf, .int .i64 (n : Int), .slice ad8 (delQ Q (i : Int)).length cap8, .slice ad9 (Rs).length cap9, .slice ad10 (As).length cap10]) rfl ty63 rfl (b := b4) zM rfl rfl) rfl ?_
     refine WC_take 1 (l' := #[true, true, false, false, false, false, false, false, false]) rfl zK zK zK rfl zK (X_move rfl) rfl ?_
     refine WC_take 2 (l' := #[true, true, true, false, false, false, false, false, false]) rfl zK zK zK rfl zK (X_loadB (vs := oneR { o with starts := o.starts + 1 }) rfl ty78 rfl (b := b11) zM rfl rfl) rfl ?_
     refine WC_take 4 (l' := #[true, true, true, false, true, false, false, false, false]) rfl zK zK zK rfl zK (X_loadB (vs := s2.v) rfl ty70 rfl (b := b13) zM rfl rfl) rfl ?_
     refine WC_take 5 (l' := #[true, true, true, false, true, true, false, false, false]) rfl zK zK zK rfl zK (X_move rfl) rfl ?_
     refine WC_one 3 (l' := #[true, true, true, true, true, true, false, false, false]) zH zK rfl zK ?_
     refine W_call (.cons rfl (.cons rfl (.cons rfl .nil))) Tryz.call93 rfl (LCalls.hsub (dmset_L (HR := X2 ++ (X1 ++ HR)) (S := S2) (Q := delQ Q (i : Int)) (Rs := Rs) (As := As) (n := n) (i := i) (o := { o with starts := o.starts + 1 }) ⟨adf, capf, Fs, ad8, cap8, ad9, cap9, ad10, cap10, rfl, hbq, j1, j2, hQt.up (.dropS (.refl _)), hRt.up (.dropS (.refl _)), hAt.up (.dropS (.refl _)), j3⟩ ((show HSub _ (X2 ++ (X1 ++ H)) from zH).trans (.app (.here _) (.app (.here _) hHR))) hA zO (H := (b4, .cells 63 5 [.slice adf S2.length capf, .int .i64 (n : Int), .slice ad8 (delQ Q (i : Int)).length cap8, .slice ad9 (Rs).length cap9, .slice ad10 (As).length cap10]) :: (b8, .cells 63 5 [.slice none 0 0, .int .i64 0, .slice none 0 0, .slice none 0 0, .slice none 0 0]) :: (b9, .cells 70 4 zSpot.v) :: (b11, .cells 78 4 (oneR { o with starts := o.starts + 1 })) :: (b13, .cells 70 4 s2.v) :: (X2 ++ (X1 ++ H)))) zH) ?_
     rintro v H' ⟨cs2, X, rfl, ⟨adc, capc, Es2, ad5, cap5, ad6, cap6, ad7, cap7, rfl, hb2, k1, k2, hQ2, hR2, hA2, k3⟩, rfl⟩
     refine W_nil ?_
     refine WC_goal ?_
     refine WC_one 6 (l' := #[true, true, true, true, true, true, true, false, false]) zH zK rfl zK ?_
     refine W_storeA (l' := [.slice adc (S2).length capc, .int .i64 (n : Int), .slice ad5 (delQ Q (i : Int)).length cap5, .slice ad6 (Rs).length cap6, .slice ad7 (As.set i { o with starts := o.starts + 1 }).length cap7]) rfl rfl ty63 rfl rfl (b := b8) zM (by exact Nat.le_refl 5) rfl zU ?_
     refine W_nil ?_
     refine WC_goal ?_
     refine WC_one 7 (l' := #[true, true, true, true, true, true, true, true, false]) zH zK rfl zK ?_
     refine W_storeA (l' := s2.v) rfl rfl ty70 rfl rfl (b := b9) zM (by exact Nat.le_refl 4) rfl zU ?_
     refine W_nil ?_
     refine WC_goal ?_
     refine WC_take 8 (l' := #[true, true, true, true, true, true, true, true, true]) rfl zK zK zK rfl zK (X_assign rfl) rfl ?_
     refine WC_done zH zK ?_
     refine W_ret3G (H2 := X ++ (X2 ++ (X1 ++ H))) Tryz.results59 (.nil _) (.own rfl ty63 rfl zM rfl) (.own rfl ty70 rfl zM rfl) (.tmp rfl) zH ?_
     have c1 : ¬ d.nl.1 = 18446744073709551615 := by show ¬ d.now = _; omega
     rw [startR_at (by omega) ho hSk, if_neg c0, if_neg (by rintro (h | h); (rw [hm] at h; cases h); omega), if_neg c1, hput]
     exact ⟨_, X ++ (X2 ++ X1), rfl, ⟨adc, capc, Es2, ad5, cap5, ad6, cap6, ad7, cap7, rfl, by rw [List.append_assoc, List.append_assoc]; exact hb2, k1, k2, by rw [List.append_assoc, List.append_assoc]; exact hQ2, by rw [List.append_assoc, List.append_assoc]; exact hR2, by rw [List.append_assoc, List.append_assoc]; exact hA2, k3⟩, by rw [List.append_assoc, List.append_assoc]⟩
theorem Cells.tail {w0 : World} {H : Heap} {b i : Nat} {v : Value} {vs : List Value} (h : Cells w0 H b i (v :: vs)) : Cells w0 H b (i + 1) vs := fun j u hu => by
 have := h (j + 1) u (by simpa using hu)
 rwa [show i + 1 + j = i + (j + 1) by omega]
theorem modC_is (y : Int) {N : Nat} (hN : 0 < N) : ∃ c : Nat, c < N ∧ (IntKind.u64.wrap y).tmod (N : Int) = (c : Int) := by
 have e : IntKind.u64.wrap y = y % 18446744073709551616 := by simp [IntKind.wrap, IntKind.signed, IntKind.bits]
 have h0 : 0 ≤ y % 18446744073709551616 := Int.emod_nonneg _ zd
 have h1 : 0 ≤ (IntKind.u64.wrap y).tmod (N : Int) := Int.tmod_nonneg _ zO
 have h2 : (IntKind.u64.wrap y).tmod (N : Int) < (N : Int) := Int.tmod_lt_of_pos _ zO
 exact ⟨((IntKind.u64.wrap y).tmod (N : Int)).toNat, by omega, by omega⟩
theorem fresh_st {n now : Nat} {Ws : List Wl} (hl : Ws.length = n) (hf : ∀ w ∈ Ws, FreshW now w) : stW Ws = List.replicate n (now, []) := by
 refine List.eq_replicate_iff.2 ⟨by rw [List.length_map, hl], fun x hx => ?_⟩
 obtain ⟨w, hw, rfl⟩ := List.mem_map.1 hx
 show (w.now, w.L) = _
 rw [(hf w hw).1, (hf w hw).2.1]
theorem hsub_pre {X H : Heap} : HSub (X ++ H) X := by
 have h : HSub (X ++ H) (X ++ []) := .app (.here _) (.nil _)
 rwa [List.append_nil] at h
def atZ (L : List Tm) (id : Int) : Int := match L.findIdx? (fun t => decide (t.id = id)) with
 | some i => (i : Int)
 | none => -1
theorem AtT.z {L : List Tm} {id z : Int} (h : AtT L id z) (hn : (L.map (·.id)).Nodup) : z = atZ L id := by
 unfold atZ
 cases hf : L.findIdx? (fun t => decide (t.id = id)) with
 | none =>
  rw [List.findIdx?_eq_none_iff] at hf
  rcases h with ⟨i, t, rfl, h1, h2⟩ | ⟨rfl, _⟩
  ·have := hf t (List.mem_of_getElem? h1)
   rw [decide_eq_true h2] at this; cases this
  ·rfl
 | some k =>
  obtain ⟨h1, h2, _⟩ := List.findIdx?_eq_some_iff_getElem.1 hf
  have h3 := of_decide_eq_true h2
  rcases h with ⟨i, t, rfl, hi, e⟩ | ⟨rfl, hno⟩
  ·have hi2 := List.getElem?_eq_some_iff.1 hi
   have e2 : i = k := (List.getElem_inj (xs := L.map (·.id)) (h₀ := by rw [List.length_map]; exact hi2.1) (h₁ := by rw [List.length_map]; exact h1) hn).1 (by rw [List.getElem_map, List.getElem_map, hi2.2, e, h3])
   rw [e2]
  ·exact absurd (List.mem_map.2 ⟨_, List.getElem_mem h1, h3⟩) hno
theorem atZ_held {L : List Tm} {id : Int} (hh : heldB L id = true) (hn : (L.map (·.id)).Nodup) : ∃ (i : Nat) (t : Tm), atZ L id = (i : Int) ∧ L[i]? = some t ∧ spotOf L id = t.s := by
 unfold atZ
 cases hf : L.findIdx? (fun t => decide (t.id = id)) with
 | none =>
  rw [List.findIdx?_eq_none_iff] at hf
  obtain ⟨t, ht, e⟩ := List.mem_map.1 (heldB_iff.1 hh)
  have := hf t ht
  rw [decide_eq_true e] at this; cases this
 | some k =>
  obtain ⟨h1, h2, _⟩ := List.findIdx?_eq_some_iff_getElem.1 hf
  have h3 := of_decide_eq_true h2
  exact ⟨k, L[k], rfl, List.getElem?_eq_getElem h1, by rw [← h3]; exact spotOf_in hn (List.getElem_mem h1)⟩
theorem rFind_q {w0 : World} {H : Heap} {now cap : Nat} {L : List Tm} {ad : Option Addr} (hl : L.length ≤ 1000000) (hn : (L.map (·.id)).Nodup) (hrow : Holds w0 H ad (rowT L)) {id : Int} : PureAt Tryz.prog w0 H 32 [.agg (List.toArray [.int .u64 ((now : Nat) : Int), .slice ad L.length cap]), .int .i64 id] (.int .i64 (atZ L id)) :=
 (rFind_L hl hrow).mono fun v H' ⟨z, e, hz, hH⟩ => ⟨by rw [e, hz.z hn], hH⟩
theorem PendH.rs {pb n : Nat} {Q Rs : List (Int × Int)} {HB : Heap} (h : PendH pb n Q Rs HB) : (Rs.map (·.1)).Nodup ∧ (∀ c z, ofR Rs c = some z → (inR Rs z).isSome = true) ∧ Rs.length ≤ 1000 := by
 obtain ⟨v, XX, rn, of_, _, hR, _⟩ := h.runs
 have hn : (Rs.map (·.1)).Nodup := List.pairwise_map.2 (hR.nd.imp_of_mem (fun ha hb hne e => hne (hR.idn ha hb (.inl e))))
 refine ⟨hn, fun c z hz => ?_, ?_⟩
 ·rw [(inR_some hR).2 ((ofR_some hR).1 hz)]; rfl
 ·have : (Rs.map (·.1)).length ≤ 256 := nodup_len hn (fun x hx => by obtain ⟨p, hp, rfl⟩ := List.mem_map.1 hx; exact (hR.rng p hp).1)
  rw [List.length_map] at this; omega
theorem TimerH.rs {tb n : Nat} {Ws : List Wl} {Q Rs : List (Int × Int)} {As : List Tone} {HB : Heap} (h : TimerH tb n Ws Q Rs As HB) : (Rs.map (·.1)).Nodup ∧ (∀ c z, ofR Rs c = some z → (inR Rs z).isSome = true) := by
 cases h with
 | mk hP hB hA hn => exact ⟨hP.rs.1, hP.rs.2.1⟩
theorem TimerH.rng {tb n : Nat} {Ws : List Wl} {Q Rs : List (Int × Int)} {As : List Tone} {HB : Heap} (h : TimerH tb n Ws Q Rs As HB) : ∀ w ∈ Ws, ∀ t ∈ w.L, 0 ≤ t.id ∧ t.id < 256 := by
 cases h with
 | mk hP hB hA hn => exact hB.rng
theorem TimerH.dok {tb n T : Nat} {Ws : List Wl} {Q Rs : List (Int × Int)} {As : List Tone} {HB : Heap} (h : TimerH tb n Ws Q Rs As HB) (hO : TOk T Ws As) : DOk n (stW Ws) Q Rs As := by
 cases h with
 | mk hP hB hA hn => exact ⟨hB.stOk hO.bank.now hO.bank.later, by rw [List.length_map]; exact hn.1, hn.2, hP.ok, hP.rs.2.2, hA.len⟩
theorem turn_del (Ws : List Wl) (ids : List Int) (cpu : Int) : turnOf (Ws.map (delW ids)) cpu = turnOf Ws cpu := by
 unfold turnOf wlAt
 by_cases h : 0 ≤ cpu
 ·rw [if_pos h, if_pos h, List.getElem?_map]
  cases Ws[cpu.toNat]? <;> rfl
 ·rw [if_neg h, if_neg h]
theorem StartIs.fn {n a : Nat} {Ws Ws' : List Wl} {Q Q' : List (Int × Int)} {As As' : List Tone} {id cpu e : Int} {s : Spot} (h : StartIs n Ws Q As id cpu a Ws' Q' As' s e) (hl : Ws.length = n) (hA : AsOk As) (hU : UniS (stW Ws)) (hr : ∀ w ∈ Ws, ∀ t ∈ w.L, 0 ≤ t.id ∧ t.id < 256) : startR (stW Ws) Q As (turnOf Ws cpu) id cpu a = (stW Ws', Q', As', s, e) := by
 cases h with
 | out h => exact if_pos (by rw [List.length_map]; omega)
 | @at_ i k o w _ _ _ _ _ hi ei ek ho hw h =>
  subst ei ek
  have hx : (stW Ws)[k]? = some (w.now, w.L) := by rw [List.getElem?_map, hw]; rfl
  have hp := hA.rng o (List.mem_of_getElem? ho)
  rw [startR_at hi ho hx]
  cases h with
  | gone h => rw [if_pos h]
  | unset hs h => rw [if_neg (by rw [hs]; decide), if_pos (h.imp id (fun h => by omega))]
  | late hs h hm => rw [if_neg (by rw [hs]; decide), if_neg (fun c => h (c.imp id (fun c => by omega))), if_pos hm]
  | put hs h hm hp2 =>
   have hf := hp2.fn (fun u hu t ht => by
    obtain ⟨v, hv, rfl⟩ := List.mem_map.1 hu
    exact hr v hv t (List.mem_filter.1 ht).1)
   rw [turn_del, delW_one, ← delOne_is hU] at hf
   rw [if_neg (by rw [hs]; decide), if_neg (fun c => h (c.imp id (fun c => by omega))), if_neg hm, hf]
theorem stop_fn {Ws : List Wl} (Q : List (Int × Int)) {As : List Tone} (id : Int) (hA : AsOk As) (hU : UniS (stW Ws)) : stopR (stW Ws) Q As id = (stW (stopA Ws Q As id).1, (stopA Ws Q As id).2.1, (stopA Ws Q As id).2.2.1, (stopA Ws Q As id).2.2.2) := by
 by_cases hi : 0 ≤ id ∧ id < 256
 ·obtain ⟨i, rfl⟩ : ∃ i : Nat, id = (i : Int) := ⟨id.toNat, by omega⟩
  obtain ⟨o, ho⟩ := hA.at (i := i) zO
  rw [stopR_at (by omega) ho, stopA_at (by omega) ho]
  unfold stopM
  by_cases h : o.made = true
  ·rw [if_pos h, if_pos h, delOne_is hU, wasT_is hU, findS_stW, delW_one]
  ·rw [if_neg h, if_neg h]
 ·rw [show stopR (stW Ws) Q As id = (stW Ws, Q, false, 2) from if_neg hi, show stopA Ws Q As id = (Ws, Q, false, 2) from if_neg hi]
theorem shut_fn {Ws : List Wl} (Q : List (Int × Int)) {As : List Tone} (id : Int) (hA : AsOk As) (hU : UniS (stW Ws)) : ∃ b : Bool, shutR (stW Ws) Q As id = (stW (shutsA Ws Q As [id, id]).1, (shutsA Ws Q As [id, id]).2.1, (shutsA Ws Q As [id, id]).2.2.1, b) ∧ (shutsA Ws Q As [id, id]).2.2.2 = if b = true then 1 else 0 := by
 have e0 : shutsA Ws Q As [id, id] = shutA (shutA (Ws, Q, As, 0) id) id := rfl
 rw [e0]
 by_cases hi : 0 ≤ id ∧ id < 256
 ·obtain ⟨i, rfl⟩ : ∃ i : Nat, id = (i : Int) := ⟨id.toNat, by omega⟩
  obtain ⟨o, ho⟩ := hA.at (i := i) zO
  have hil : i < As.length := (List.getElem?_eq_some_iff.1 ho).1
  rw [shutR_at (by omega) ho]
  have h1 := shutA_at (s := (Ws, Q, As, 0)) (i := i) (o := o) zO ho
  by_cases h : o.shut = true
  ·rw [if_pos h] at h1 ⊢
   rw [h1, h1]
   exact ⟨false, rfl, rfl⟩
  ·rw [if_neg h] at h1 ⊢
   rw [h1]
   have h2 := shutA_at (s := (Ws.map (delW [(i : Int)]), delQ Q (i : Int), As.set i { o with shut := true }, 0 + 1)) (i := i) (o := { o with shut := true }) zO (List.getElem?_set_self hil)
   rw [if_pos rfl] at h2
   dsimp only at h2 ⊢
   rw [h2]
   exact ⟨true, by rw [delW_one, delOne_is hU], rfl⟩
 ·rw [shutA_out hi, shutA_out hi]
  exact ⟨false, if_neg hi, rfl⟩
theorem clear_fn {Ws : List Wl} (Q Rs : List (Int × Int)) (As : List Tone) (id : Int) (hU : UniS (stW Ws)) : clearR (stW Ws) Q Rs As id = (stW (clearA Ws Q Rs As id).1, (clearA Ws Q Rs As id).2.1, (clearA Ws Q Rs As id).2.2.1, (clearA Ws Q Rs As id).2.2.2) := by
 by_cases hi : 0 ≤ id ∧ id < 256
 ·obtain ⟨i, rfl⟩ : ∃ i : Nat, id = (i : Int) := ⟨id.toNat, by omega⟩
  rw [clearR_at (by omega), clearA_at (by omega)]
  unfold clearM
  by_cases h : (inR Rs (i : Int)).isSome = true
  ·rw [if_pos h, if_pos h]
  ·rw [if_neg h, if_neg h, delOne_is hU, delW_one]
 ·rw [show clearR (stW Ws) Q Rs As id = (stW Ws, Q, As, 2) from if_neg hi, show clearA Ws Q Rs As id = (Ws, Q, As, 2) from if_neg hi]
theorem state_fn (Ws : List Wl) (Q : List (Int × Int)) {As : List Tone} (id : Int) (hA : AsOk As) : stateR (stW Ws) Q As id = stateA Ws Q As id := by
 unfold stateA stateO
 by_cases hi : 0 ≤ id ∧ id < 256
 ·obtain ⟨i, rfl⟩ : ∃ i : Nat, id = (i : Int) := ⟨id.toNat, by omega⟩
  obtain ⟨o, ho⟩ := hA.at (i := i) zO
  rw [stateR_at (by omega) ho, ofA_at (by omega) ho, findS_stW]
 ·rw [ofA_out hi, show stateR (stW Ws) Q As id = 0 from if_neg hi]; rfl
end Go.Proofs.YtcmfldfeakmdoaaGreatDoor
