/-
  Own work: contracts of functions that the statement reaches, and plain facts on what they compute; each theorem says its conditions.
-/
import Derived.Test.YtknbohnoiigioaaDoorW35
set_option linter.all false
set_option linter.unusedSimpArgs false
set_option linter.unusedVariables false
namespace Go.Proofs.YtknbohnoiigioaaDoor
open Go Go.Sl
attribute [local irreducible] W
theorem puts_same {a : Nat} : ∀ i, i ≤ 256 → ∀ t ∈ putsT 0 (List.replicate 256 (a : Int)) i, t.s = (placeT 0 a).1
  | 0, _ => fun t ht => by cases ht
  | i + 1, h => fun t ht => by
    rcases List.mem_append.1 (show t ∈ putsT 0 (List.replicate 256 (a : Int)) i ++ [_] from ht) with ht | ht
    · exact puts_same i (by omega) t ht
    · rw [List.mem_singleton.1 ht]
      show (placeT 0 ((List.replicate 256 (a : Int)).getD i 0).toNat).1 = _
      rw [List.getD_eq_getElem?_getD, List.getElem?_replicate, if_pos (by omega)]
      rfl
set_option maxHeartbeats 4000000 in
theorem wheelLimits_pure {id : Int} {a : Nat} (ha : a ≤ 18446744073709551615) : Pure Tryd.prog (Tab) 4 [.int .i64 id, .int .u64 ((a : Nat) : Int)] (.bool true) := by
  intro w0 H hT
  refine L_enter Tryd.func4 rfl Tryd.ntmps4 rfl rfl ?_
  refine W_sr ?_
  refine W_assign rfl rfl ?_
  refine W_nil ?_
  refine W_sr ?_
  refine W_call (.cons rfl .nil) Tryd.call13 rfl ((New_W (now := 0) (H := H)).hsub (by repeat (first | with_reducible exact HSub.refl _ | refine HSub.cons (by repeat (first | exact Take.here _ | apply Take.next | apply Take.app)) ?_ | refine HSub.app (by repeat (first | with_reducible exact TakeS.here _ | apply TakeS.next | apply TakeS.app)) ?_ | exact HSub.nil _ | exact HSub.refl _ | refine HSub.drop ?_ | refine HSub.dropS ?_))) ?_
  rintro v H' ⟨bw1, HW1, rfl, hW1, rfl⟩
  refine W_assign rfl rfl ?_
  refine W_nil ?_
  refine W_seq ?_
  refine W_sr ?_
  refine W_assign rfl rfl ?_
  refine W_nil ?_
  refine W_block ?_
  refine W_loopC (X := (Nat × Heap)) [(0, _), (1, _), (5, _)] (fun (x : (Nat × Heap)) => [(6, .int .i64 (x.1 : Int))]) (fun _ => _) (fun (x : (Nat × Heap)) => x.2 ++ H) (fun (x : (Nat × Heap)) => x.1 ≤ 256 ∧ WheelH bw1 0 (putsT 0 (List.replicate 256 (a : Int)) x.1) x.1 x.2) (fun (x : (Nat × Heap)) => 256 - x.1) (0, HW1) ⟨Nat.zero_le _, hW1⟩ (sub_cons rfl (sub_cons rfl (sub_cons rfl (sub_nil _)))) (sub_cons rfl (sub_nil _)) rfl (.refl _) ?_
  rintro ⟨i, HWi⟩ ⟨hi, hWi⟩
  dsimp only at hi hWi ⊢
  simp only [List.cons_append, List.nil_append]
  refine W_seq ?_
  refine W_sr ?_
  refine W_move rfl rfl ?_
  refine W_bin rfl rfl b_lss rfl ?_
  refine W_nil ?_
  refine W_condPS (p := (i : Int) < 256) rfl (by simp) (fun q0 => ?_) (fun q0 => ?_)
  · skip
    refine W_skip ?_
    refine W_seq ?_
    refine W_block ?_
    refine W_sr ?_
    refine W_move rfl rfl ?_
    refine W_move rfl rfl ?_
    refine W_move rfl rfl ?_
    refine W_call (.cons rfl (.cons rfl (.cons rfl .nil))) Tryd.call14 rfl ((Put_L (id := (i : Int)) (a := a) hWi (by decide) ha (by omega) (puts_new 0 (List.replicate 256 (a : Int)) i) (by omega)).hsub (.refl _)) ?_
    rintro v H' ⟨HW', hW', rfl, rfl⟩
    refine W_move rfl rfl ?_
    refine W_extract rfl rfl rfl ?_
    refine W_extract rfl rfl rfl ?_
    refine W_alloc (l := zSpot.v) ty27 rfl rfl (fun b7 => ?_)
    refine W_storeA (l' := (placeT 0 a).1.v) rfl rfl ty27 rfl rfl (b := b7) (by repeat (first | exact List.mem_cons_self | apply List.mem_cons_of_mem | apply List.mem_append_right)) (by exact Nat.le_refl 4) rfl (by repeat (first | exact Upd.head _ | apply Upd.tail | apply Upd.app)) ?_
    refine W_assign rfl rfl ?_
    refine W_nil ?_
    refine W_sr ?_
    refine W_move rfl rfl ?_
    refine W_bin rfl rfl b_neq rfl ?_
    refine W_nil ?_
    refine W_condF rfl rfl ?_
    refine W_skip ?_
    refine W_blk ?_
    refine W_region ?_
    refine W_move rfl rfl ?_
    refine W_bin rfl rfl (b_add (m := ((i + 1 : Nat) : Int)) ((i64w (by omega)).trans (by omega))) rfl ?_
    refine W_assign rfl rfl ?_
    refine W_nil ?_
    refine W_again (i + 1, HW') ⟨by show i + 1 ≤ 256; omega, by show WheelH bw1 0 (putsT 0 (List.replicate 256 (a : Int)) (i + 1)) (i + 1) HW'; rw [show (putsT 0 (List.replicate 256 (a : Int)) (i + 1)) = (putsT 0 (List.replicate 256 (a : Int)) i) ++ [tmOf 0 a i (i : Int)] from by show _ ++ [tmOf 0 ((List.replicate 256 (a : Int)).getD i 0).toNat i (i : Int)] = _; rw [show (List.replicate 256 (a : Int)).getD i 0 = (a : Int) from by rw [List.getD_eq_getElem?_getD, List.getElem?_replicate, if_pos (by omega)]; rfl]; rfl]; exact hW'⟩ (by show 256 - (i + 1) < 256 - i; omega) (sub_cons rfl (sub_cons rfl (sub_cons rfl (sub_cons rfl (sub_nil _))))) rfl (by repeat (first | with_reducible exact HSub.refl _ | refine HSub.drop ?_))
  · skip
    refine W_exit rfl ?_
    refine W_sr ?_
    refine W_move rfl rfl ?_
    refine W_move rfl rfl ?_
    refine W_move rfl rfl ?_
    obtain rfl : i = 256 := by omega
    obtain ⟨L, hL⟩ : ∃ L, L = (putsT 0 (List.replicate 256 (a : Int)) 256) := ⟨_, rfl⟩
    rw [← hL] at hWi
    have hsame : ∀ t ∈ L, t.s = (placeT 0 a).1 := by rw [hL]; exact puts_same 256 (Nat.le_refl _)
    have hLl : L.length = 256 := by rw [hL]; exact puts_len _ _ _
    have hLi : L.map (·.id) = (List.range 256).map (fun j : Nat => (j : Int)) := by rw [hL]; exact puts_ids _ _ _
    clear hL
    by_cases hr : 0 ≤ id ∧ id < 256
    · skip
      refine W_call (.cons rfl (.cons rfl (.cons rfl .nil))) Tryd.call14 rfl (Put_again (z := (a : Int)) hWi ⟨hr.1, hr.2⟩ (by rw [hLi, List.mem_map]; exact ⟨id.toNat, List.mem_range.2 (by omega), by omega⟩)) ?_
      rintro v H' ⟨rfl, rfl⟩
      refine W_move rfl rfl ?_
      refine W_extract rfl rfl rfl ?_
      refine W_extract rfl rfl rfl ?_
      refine W_alloc (l := zSpot.v) ty27 rfl rfl (fun b9 => ?_)
      refine W_storeA (l' := zSpot.v) rfl rfl ty27 rfl rfl (b := b9) (by repeat (first | exact List.mem_cons_self | apply List.mem_cons_of_mem | apply List.mem_append_right)) (by exact Nat.le_refl 4) rfl (by repeat (first | exact Upd.head _ | apply Upd.tail | apply Upd.app)) ?_
      refine W_assign rfl rfl ?_
      refine W_nil ?_
      refine W_sr ?_
      refine W_assign rfl rfl ?_
      refine W_nil ?_
      refine W_seq ?_
      refine W_sr ?_
      refine W_move rfl rfl ?_
      refine W_bin rfl rfl b_geq rfl ?_
      refine W_move rfl rfl ?_
      apply W_and
      iterate 4 exact rfl
      case h1 =>
        intro hg2
        refine W_gyes rfl rfl ?_
        refine W_move rfl rfl ?_
        refine W_gyes rfl rfl ?_
        refine W_bin rfl rfl b_lss rfl ?_
        exact W_met rfl (by repeat (first | exact .refl | refine .cons rfl ?_))
      refine W_nil ?_
      refine W_condT rfl (by simp; omega) ?_
      refine W_region ?_
      refine W_assign rfl rfl ?_
      refine W_nil ?_
      refine W_sr ?_
      refine W_move rfl rfl ?_
      refine W_call (.cons rfl (.cons rfl .nil)) Tryd.call18 rfl ((To_L (a := 18446744073709551615) hWi (by decide) (Nat.le_refl _) hT (H := H)).hsub (by repeat (first | with_reducible exact HSub.refl _ | refine HSub.cons (by repeat (first | exact Take.here _ | apply Take.next | apply Take.app)) ?_ | refine HSub.app (by repeat (first | with_reducible exact TakeS.here _ | apply TakeS.next | apply TakeS.app)) ?_ | exact HSub.nil _ | exact HSub.refl _ | refine HSub.drop ?_ | refine HSub.dropS ?_))) ?_
      rintro v H' ⟨O, Li, HWm, XO, hWm, hG, hO, rfl⟩
      have hids := hWi.ids
      have hall : ∀ t ∈ L, t.s.due ≤ 18446744073709551615 := fun t ht => dueW hWi ht
      obtain rfl : O = L := hG.is (by rw [List.filter_eq_self.2 (fun t ht => decide_eq_true (hall t ht))]) (hids.2.2.1.imp_of_mem fun ha hb h => .inr ⟨by rw [hsame _ ha, hsame _ hb], h⟩)
      obtain rfl : Li = [] := by rw [hG.left]; exact List.filter_eq_nil_iff.2 (fun t ht => by have := hall t ht; simp; omega)
      obtain ⟨ad2, cap2, rfl, _, _⟩ := hO.shape
      have hrow : Holds w0 (XO ++ (HWm ++ H)) ad2 ((O.map (·.id)).map (Value.int .i64)) := OwnS.holds hO (fun p hp => List.mem_append_left _ hp)
      rw [hLi] at hrow
      rw [hLl]
      refine W_assign rfl rfl ?_
      refine W_nil ?_
      refine W_seq ?_
      refine W_sr ?_
      refine W_move rfl rfl ?_
      refine W_len rfl ty35 rfl rfl ?_
      refine W_bin rfl rfl b_neq rfl ?_
      refine W_nil ?_
      refine W_condF rfl rfl ?_
      refine W_skip ?_
      refine W_seq ?_
      refine W_sr ?_
      refine W_assign rfl rfl ?_
      refine W_nil ?_
      refine W_block ?_
      refine W_loopC (X := Nat) [(5, _), (10, _), (11, _), (12, _)] (fun (i : Nat) => [(13, .int .i64 (i : Int))]) (fun _ => _) (fun (i : Nat) => XO ++ (HWm ++ H)) (fun (i : Nat) => i ≤ 256) (fun (i : Nat) => 256 - i) 0 (Nat.zero_le _) (sub_cons rfl (sub_cons rfl (sub_cons rfl (sub_cons rfl (sub_nil _))))) (sub_cons rfl (sub_nil _)) rfl (by repeat (first | with_reducible exact HSub.refl _ | refine HSub.cons (by repeat (first | exact Take.here _ | apply Take.next | apply Take.app)) ?_ | refine HSub.app (by repeat (first | with_reducible exact TakeS.here _ | apply TakeS.next | apply TakeS.app)) ?_ | exact HSub.nil _ | exact HSub.refl _ | refine HSub.drop ?_ | refine HSub.dropS ?_)) ?_
      intro i hi
      simp only [List.cons_append, List.nil_append]
      refine W_seq ?_
      refine W_sr ?_
      refine W_move rfl rfl ?_
      refine W_bin rfl rfl b_lss rfl ?_
      refine W_nil ?_
      refine W_condPS (p := (i : Int) < 256) rfl (by simp) (fun q1 => ?_) (fun q1 => ?_)
      · skip
        refine W_skip ?_
        refine W_seq ?_
        refine W_block ?_
        refine W_sr ?_
        obtain ⟨q0, p0, rfl, hc⟩ := hrow.at (i := i) (v := .int .i64 (i : Int)) (by rw [List.getElem?_map, List.getElem?_map, List.getElem?_range (by omega)]; rfl)
        refine W_move rfl rfl ?_
        refine W_move rfl rfl ?_
        refine W_indexAddr (j := i) rfl rfl ty35 ty3 rfl (by omega) rfl rfl ?_
        refine W_load (v := .int .i64 (i : Int)) rfl ty3 rfl (by rw [Nat.mul_one]; exact hc) rfl ?_
        refine W_move rfl rfl ?_
        refine W_bin rfl rfl b_neq rfl ?_
        refine W_nil ?_
        refine W_condF rfl (decide_eq_false (fun h => h rfl)) ?_
        refine W_skip ?_
        refine W_blk ?_
        refine W_region ?_
        refine W_move rfl rfl ?_
        refine W_bin rfl rfl (b_add (m := ((i + 1 : Nat) : Int)) ((i64w (by omega)).trans (by omega))) rfl ?_
        refine W_assign rfl rfl ?_
        refine W_nil ?_
        refine W_again (i + 1) (by omega) (by omega) (sub_cons rfl (sub_cons rfl (sub_cons rfl (sub_cons rfl (sub_cons rfl (sub_nil _)))))) rfl (by repeat (first | with_reducible exact HSub.refl _ | refine HSub.cons (by repeat (first | exact Take.here _ | apply Take.next | apply Take.app)) ?_ | refine HSub.app (by repeat (first | with_reducible exact TakeS.here _ | apply TakeS.next | apply TakeS.app)) ?_ | exact HSub.nil _ | exact HSub.refl _ | refine HSub.drop ?_ | refine HSub.dropS ?_))
      · skip
        refine W_exit rfl ?_
        refine W_sr ?_
        refine W_callp .nil Tryd.call16 rfl hT known_pure ?_
        refine W_move rfl rfl ?_
        refine W_gyes rfl rfl ?_
        refine W_move rfl rfl ?_
        refine W_gyes rfl rfl ?_
        refine W_move rfl rfl ?_
        refine W_gyes rfl rfl ?_
        refine W_bin rfl rfl b_eql rfl ?_
        first | refine W_pickt rfl rfl rfl ?_ | refine W_pickf rfl rfl rfl ?_
        refine W_move rfl rfl ?_
        refine W_gyes rfl rfl ?_
        refine W_move rfl rfl ?_
        refine W_gyes rfl rfl ?_
        refine W_call (.cons rfl .nil) Tryd.call17 rfl (LCalls.hsub (Len_W (H := H) hWm) (by repeat (first | with_reducible exact HSub.refl _ | refine HSub.cons (by repeat (first | exact Take.here _ | apply Take.next | apply Take.app)) ?_ | refine HSub.app (by repeat (first | with_reducible exact TakeS.here _ | apply TakeS.next | apply TakeS.app)) ?_ | exact HSub.nil _ | exact HSub.refl _ | refine HSub.drop ?_ | refine HSub.dropS ?_))) ?_
        rintro v H' ⟨rfl, rfl⟩
        refine W_gyes rfl rfl ?_
        refine W_bin rfl rfl b_eql rfl ?_
        first | refine W_pickt rfl rfl rfl ?_ | refine W_pickf rfl rfl rfl ?_
        refine W_assign rfl rfl ?_
        refine W_nil ?_
        refine W_ret1m (H2 := H) Tryd.results4 rfl (.nil _) (by repeat (first | with_reducible exact HSub.refl _ | refine HSub.cons (by repeat (first | exact Take.here _ | apply Take.next | apply Take.app)) ?_ | refine HSub.app (by repeat (first | with_reducible exact TakeS.here _ | apply TakeS.next | apply TakeS.app)) ?_ | exact HSub.nil _ | exact HSub.refl _ | refine HSub.drop ?_ | refine HSub.dropS ?_)) ?_
        exact ⟨rfl, rfl⟩
    · skip
      refine W_callp (.cons rfl (.cons rfl (.cons rfl .nil))) Tryd.call14 rfl (T := fun _ => True) trivial (Put_range (bw := bw1) (id := id) (z := (a : Int)) (by omega)) ?_
      refine W_move rfl rfl ?_
      refine W_extract rfl rfl rfl ?_
      refine W_extract rfl rfl rfl ?_
      refine W_alloc (l := zSpot.v) ty27 rfl rfl (fun b9 => ?_)
      refine W_storeA (l' := zSpot.v) rfl rfl ty27 rfl rfl (b := b9) (by repeat (first | exact List.mem_cons_self | apply List.mem_cons_of_mem | apply List.mem_append_right)) (by exact Nat.le_refl 4) rfl (by repeat (first | exact Upd.head _ | apply Upd.tail | apply Upd.app)) ?_
      refine W_assign rfl rfl ?_
      refine W_nil ?_
      refine W_sr ?_
      refine W_assign rfl rfl ?_
      refine W_nil ?_
      refine W_seq ?_
      refine W_sr ?_
      refine W_move rfl rfl ?_
      refine W_bin rfl rfl b_geq rfl ?_
      refine W_move rfl rfl ?_
      apply W_and
      iterate 4 exact rfl
      case h1 =>
        intro hg2
        refine W_gyes rfl rfl ?_
        refine W_move rfl rfl ?_
        refine W_gyes rfl rfl ?_
        refine W_bin rfl rfl b_lss rfl ?_
        exact W_met rfl (by repeat (first | exact .refl | refine .cons rfl ?_))
      refine W_nil ?_
      refine W_condF rfl (by simp; omega) ?_
      refine W_skip ?_
      refine W_sr ?_
      refine W_move rfl rfl ?_
      refine W_call (.cons rfl (.cons rfl .nil)) Tryd.call18 rfl ((To_L (a := 18446744073709551615) hWi (by decide) (Nat.le_refl _) hT (H := H)).hsub (by repeat (first | with_reducible exact HSub.refl _ | refine HSub.cons (by repeat (first | exact Take.here _ | apply Take.next | apply Take.app)) ?_ | refine HSub.app (by repeat (first | with_reducible exact TakeS.here _ | apply TakeS.next | apply TakeS.app)) ?_ | exact HSub.nil _ | exact HSub.refl _ | refine HSub.drop ?_ | refine HSub.dropS ?_))) ?_
      rintro v H' ⟨O, Li, HWm, XO, hWm, hG, hO, rfl⟩
      have hids := hWi.ids
      have hall : ∀ t ∈ L, t.s.due ≤ 18446744073709551615 := fun t ht => dueW hWi ht
      obtain rfl : O = L := hG.is (by rw [List.filter_eq_self.2 (fun t ht => decide_eq_true (hall t ht))]) (hids.2.2.1.imp_of_mem fun ha hb h => .inr ⟨by rw [hsame _ ha, hsame _ hb], h⟩)
      obtain rfl : Li = [] := by rw [hG.left]; exact List.filter_eq_nil_iff.2 (fun t ht => by have := hall t ht; simp; omega)
      obtain ⟨ad2, cap2, rfl, _, _⟩ := hO.shape
      have hrow : Holds w0 (XO ++ (HWm ++ H)) ad2 ((O.map (·.id)).map (Value.int .i64)) := OwnS.holds hO (fun p hp => List.mem_append_left _ hp)
      rw [hLi] at hrow
      rw [hLl]
      refine W_assign rfl rfl ?_
      refine W_nil ?_
      refine W_seq ?_
      refine W_sr ?_
      refine W_move rfl rfl ?_
      refine W_len rfl ty35 rfl rfl ?_
      refine W_bin rfl rfl b_neq rfl ?_
      refine W_nil ?_
      refine W_condF rfl rfl ?_
      refine W_skip ?_
      refine W_seq ?_
      refine W_sr ?_
      refine W_assign rfl rfl ?_
      refine W_nil ?_
      refine W_block ?_
      refine W_loopC (X := Nat) [(5, _), (10, _), (11, _), (12, _)] (fun (i : Nat) => [(13, .int .i64 (i : Int))]) (fun _ => _) (fun (i : Nat) => XO ++ (HWm ++ H)) (fun (i : Nat) => i ≤ 256) (fun (i : Nat) => 256 - i) 0 (Nat.zero_le _) (sub_cons rfl (sub_cons rfl (sub_cons rfl (sub_cons rfl (sub_nil _))))) (sub_cons rfl (sub_nil _)) rfl (by repeat (first | with_reducible exact HSub.refl _ | refine HSub.cons (by repeat (first | exact Take.here _ | apply Take.next | apply Take.app)) ?_ | refine HSub.app (by repeat (first | with_reducible exact TakeS.here _ | apply TakeS.next | apply TakeS.app)) ?_ | exact HSub.nil _ | exact HSub.refl _ | refine HSub.drop ?_ | refine HSub.dropS ?_)) ?_
      intro i hi
      simp only [List.cons_append, List.nil_append]
      refine W_seq ?_
      refine W_sr ?_
      refine W_move rfl rfl ?_
      refine W_bin rfl rfl b_lss rfl ?_
      refine W_nil ?_
      refine W_condPS (p := (i : Int) < 256) rfl (by simp) (fun q1 => ?_) (fun q1 => ?_)
      · skip
        refine W_skip ?_
        refine W_seq ?_
        refine W_block ?_
        refine W_sr ?_
        obtain ⟨q0, p0, rfl, hc⟩ := hrow.at (i := i) (v := .int .i64 (i : Int)) (by rw [List.getElem?_map, List.getElem?_map, List.getElem?_range (by omega)]; rfl)
        refine W_move rfl rfl ?_
        refine W_move rfl rfl ?_
        refine W_indexAddr (j := i) rfl rfl ty35 ty3 rfl (by omega) rfl rfl ?_
        refine W_load (v := .int .i64 (i : Int)) rfl ty3 rfl (by rw [Nat.mul_one]; exact hc) rfl ?_
        refine W_move rfl rfl ?_
        refine W_bin rfl rfl b_neq rfl ?_
        refine W_nil ?_
        refine W_condF rfl (decide_eq_false (fun h => h rfl)) ?_
        refine W_skip ?_
        refine W_blk ?_
        refine W_region ?_
        refine W_move rfl rfl ?_
        refine W_bin rfl rfl (b_add (m := ((i + 1 : Nat) : Int)) ((i64w (by omega)).trans (by omega))) rfl ?_
        refine W_assign rfl rfl ?_
        refine W_nil ?_
        refine W_again (i + 1) (by omega) (by omega) (sub_cons rfl (sub_cons rfl (sub_cons rfl (sub_cons rfl (sub_cons rfl (sub_nil _)))))) rfl (by repeat (first | with_reducible exact HSub.refl _ | refine HSub.cons (by repeat (first | exact Take.here _ | apply Take.next | apply Take.app)) ?_ | refine HSub.app (by repeat (first | with_reducible exact TakeS.here _ | apply TakeS.next | apply TakeS.app)) ?_ | exact HSub.nil _ | exact HSub.refl _ | refine HSub.drop ?_ | refine HSub.dropS ?_))
      · skip
        refine W_exit rfl ?_
        refine W_sr ?_
        refine W_callp .nil Tryd.call16 rfl hT known_pure ?_
        refine W_move rfl rfl ?_
        refine W_gyes rfl rfl ?_
        refine W_move rfl rfl ?_
        refine W_gyes rfl rfl ?_
        refine W_move rfl rfl ?_
        refine W_gyes rfl rfl ?_
        refine W_bin rfl rfl b_eql rfl ?_
        first | refine W_pickt rfl rfl rfl ?_ | refine W_pickf rfl rfl rfl ?_
        refine W_move rfl rfl ?_
        refine W_gyes rfl rfl ?_
        refine W_move rfl rfl ?_
        refine W_gyes rfl rfl ?_
        refine W_call (.cons rfl .nil) Tryd.call17 rfl (LCalls.hsub (Len_W (H := H) hWm) (by repeat (first | with_reducible exact HSub.refl _ | refine HSub.cons (by repeat (first | exact Take.here _ | apply Take.next | apply Take.app)) ?_ | refine HSub.app (by repeat (first | with_reducible exact TakeS.here _ | apply TakeS.next | apply TakeS.app)) ?_ | exact HSub.nil _ | exact HSub.refl _ | refine HSub.drop ?_ | refine HSub.dropS ?_))) ?_
        rintro v H' ⟨rfl, rfl⟩
        refine W_gyes rfl rfl ?_
        refine W_bin rfl rfl b_eql rfl ?_
        first | refine W_pickt rfl rfl rfl ?_ | refine W_pickf rfl rfl rfl ?_
        refine W_assign rfl rfl ?_
        refine W_nil ?_
        refine W_ret1m (H2 := H) Tryd.results4 rfl (.nil _) (by repeat (first | with_reducible exact HSub.refl _ | refine HSub.cons (by repeat (first | exact Take.here _ | apply Take.next | apply Take.app)) ?_ | refine HSub.app (by repeat (first | with_reducible exact TakeS.here _ | apply TakeS.next | apply TakeS.app)) ?_ | exact HSub.nil _ | exact HSub.refl _ | refine HSub.drop ?_ | refine HSub.dropS ?_)) ?_
        exact ⟨rfl, rfl⟩
end Go.Proofs.YtknbohnoiigioaaDoor
