/-
  Own work: contracts of functions that the statement reaches, and plain facts on what they compute; each theorem says its conditions.
-/
import Derived.Test.YtkhkagjbeilbgaaDoorF13
import Derived.Test.YtkhkagjbeilbgaaDoorSlGuard
set_option linter.all false
set_option linter.unusedSimpArgs false
set_option linter.unusedVariables false
namespace Go.Proofs.YtkhkagjbeilbgaaDoor
open Go Go.Sl
attribute [local irreducible] W

theorem take_ext {V U : List Va} {k : Nat} (hV : k < V.length) (hU : k < U.length) (h : V.take k = U.take k) (e : V.getD k zeroV = U.getD k zeroV) : V.take (k + 1) = U.take (k + 1) := by
  rw [List.take_add_one, List.take_add_one, h]
  simp only [List.getD_eq_getElem?_getD, List.getElem?_eq_getElem hV, List.getElem?_eq_getElem hU, Option.getD_some] at e
  rw [List.getElem?_eq_getElem hV, List.getElem?_eq_getElem hU, e]
theorem getD_ne {V U : List Va} {k : Nat} (h : ¬ V.getD k zeroV = U.getD k zeroV) : ¬ V = U := fun e => h (by rw [e])
theorem same_end {V U : List Va} (hV : V.length = 18) (hU : U.length = 18) (h : V.take 18 = U.take 18) : V = U := by
  rwa [List.take_of_length_le (by omega), List.take_of_length_le (by omega)] at h
theorem rd_word' {V : List Va} {k : Nat} (hk : k < 8) : rdV V true (k : Int) = (V.getD (10 + k) zeroV, 0) := by
  have := rd_word (V := V) (k := 10 + k) (by omega) (by omega)
  rwa [show (((10 + k : Nat) : Int) - 10) = (k : Int) by omega] at this
set_option maxHeartbeats 1000000 in
theorem same_L {w0 : World} {H : Heap} {bf : Nat} {V U : List Va} (hV : V.length = 18) (hU : U.length = 18)  : LCalls Tryd.prog w0 30 #[.pointer (some ⟨bf, 0, none⟩), .agg (vaRow U).toArray] ((bf, .cells 130 90 (vaRow V)) :: H) (fun v H' => v = .bool (decide (V = U)) ∧ H' = (bf, .cells 130 90 (vaRow V)) :: H) := by
  refine L_enter (l := [.pointer (some ⟨bf, 0, none⟩), .agg (vaRow U).toArray]) Tryd.func30 rfl Tryd.ntmps30 rfl rfl ?_
  refine W_sr ?_
  refine W_box rfl rfl rfl (fun b3 => ?_)
  refine W_assign rfl rfl ?_
  refine W_nil ?_
  refine W_seq ?_
  refine W_sr ?_
  refine W_assign rfl rfl ?_
  refine W_nil ?_
  refine W_block ?_
  refine W_loopC (X := Nat) [(0, _), (3, _)] (fun (i : Nat) => [(5, .int .i64 (i : Int))]) (fun _ => _) (fun _ => _) (fun (i : Nat) => i ≤ 10 ∧ V.take i = U.take i) (fun (i : Nat) => 10 - i) 0 ⟨by decide, rfl⟩ (sub_cons rfl (sub_cons rfl (sub_nil _))) (sub_cons rfl (sub_nil _)) rfl (by repeat (first | with_reducible exact HSub.refl _ | refine HSub.cons (by repeat (first | exact Take.here _ | apply Take.next | apply Take.app)) ?_ | refine HSub.app (by repeat (first | with_reducible exact TakeS.here _ | apply TakeS.next | apply TakeS.app)) ?_ | exact HSub.nil _ | exact HSub.refl _ | refine HSub.drop ?_ | refine HSub.dropS ?_)) ?_
  intro i hi
  simp only [List.cons_append, List.nil_append]
  refine W_seq ?_
  refine W_sr ?_
  refine W_move rfl rfl ?_
  refine W_bin rfl rfl b_lss rfl ?_
  refine W_nil ?_
  refine W_condPS (p := (i : Int) < 10) rfl (by simp) (fun c0 => ?_) (fun c0 => ?_)
  · skip
    refine W_skip ?_
    refine W_seq ?_
    refine W_block ?_
    refine W_sr ?_
    refine W_move rfl rfl ?_
    refine W_move rfl rfl ?_
    refine W_call (.cons rfl (.cons rfl .nil)) Tryd.call23 rfl ((Reg_L (V := V) (at_ := (i : Int)) hV).hsub (.cons (by repeat (first | exact Take.here _ | apply Take.next | apply Take.app)) (.refl _))) ?_
    rintro v H' ⟨rfl, rfl⟩
    rw [rd_reg (by omega)]
    refine W_move rfl rfl ?_
    refine W_extract rfl rfl rfl ?_
    refine W_extract rfl rfl rfl ?_
    refine W_alloc ty50 rfl rfl (fun b6 => ?_)
    refine W_storeA rfl rfl ty50 rfl rfl (b := b6) (by repeat (first | exact List.mem_cons_self | apply List.mem_cons_of_mem | apply List.mem_append_right)) (by decide) rfl (by repeat (first | exact Upd.head _ | apply Upd.tail | apply Upd.app)) ?_
    refine W_assign rfl rfl ?_
    refine W_nil ?_
    refine W_quietsr (by kernel_rfl) (by decide +kernel) ?_
    refine WQ_x (X_move rfl) rfl ?_
    refine WQ_x (X_bin rfl rfl b_neq) rfl ?_
    refine WQ_x (X_move rfl) rfl ?_
    refine WQ_gyes rfl rfl ?_
    refine WQ_x (X_loadB (vs := vaC (V.getD i zeroV)) rfl ty50 rfl (by repeat (first | exact List.mem_cons_self | apply List.mem_cons_of_mem | apply List.mem_append_right)) rfl rfl) rfl ?_
    refine WQ_gyes rfl rfl ?_
    refine WQ_callp (.cons rfl .nil) Tryd.call71 rfl (T := fun _ => True) trivial (Of_pure _) ?_
    refine WQ_gyes rfl rfl ?_
    refine WQ_x (X_move rfl) rfl ?_
    refine WQ_gyes rfl rfl ?_
    refine WQ_x (X_fieldAddr rfl fld60_0 (by decide)) rfl ?_
    refine WQ_gyes rfl rfl ?_
    refine WQ_x (X_indexAddrA (j := i) rfl rfl ty58 ty55 (by first | rfl | omega) (by first | decide | omega | simp) rfl) rfl ?_
    refine WQ_gyes rfl rfl ?_
    refine WQ_x (X_loadB (vs := vaC (U.getD i zeroV)) rfl ty55 rfl (b := b3) (by repeat (first | exact List.mem_cons_self | apply List.mem_cons_of_mem | apply List.mem_append_right)) (by show Nat.ble _ (vaRow U).length = true; rw [vaRow_len, Nat.ble_eq]; omega) (by rw [Nat.zero_add]; exact va_at (getV hU (i := i) (by omega)))) rfl ?_
    refine WQ_gyes rfl rfl ?_
    refine WQ_x (X_neF (f := vaC) rfl rfl flat55 agg55 vaC_like vaC_inj gt55 (by decide)) rfl ?_
    first | refine WQ_x (X_pickt rfl rfl) rfl ?_ | refine WQ_x (X_pickf rfl rfl) rfl ?_
    refine WQ_nil ?_
    refine W_condPS (p := ¬ V.getD i zeroV = U.getD i zeroV) rfl (by simp) (fun c1 => ?_) (fun c1 => ?_)
    · skip
      refine W_sr ?_
      refine W_assign rfl rfl ?_
      refine W_nil ?_
      refine W_ret1m (H2 := (bf, .cells 130 90 (vaRow V)) :: H) Tryd.results30 rfl (.nil _) (by repeat (first | with_reducible exact HSub.refl _ | refine HSub.cons (by repeat (first | exact Take.here _ | apply Take.next | apply Take.app)) ?_ | refine HSub.app (by repeat (first | with_reducible exact TakeS.here _ | apply TakeS.next | apply TakeS.app)) ?_ | exact HSub.nil _ | exact HSub.refl _ | refine HSub.drop ?_ | refine HSub.dropS ?_)) ?_
      exact ⟨by rw [decide_eq_false (getD_ne (by assumption))], rfl⟩
    · skip
      refine W_skip ?_
      refine W_blk ?_
      refine W_region ?_
      refine W_move rfl rfl ?_
      refine W_bin rfl rfl (b_add (m := ((i + 1 : Nat) : Int)) ((i64w (by omega)).trans (by omega))) rfl ?_
      refine W_assign rfl rfl ?_
      refine W_nil ?_
      refine W_again (i + 1) ⟨by omega, take_ext (by omega) (by omega) hi.2 (by simpa using c1)⟩ (by omega) (sub_cons rfl (sub_cons rfl (sub_cons rfl (sub_nil _)))) rfl (by repeat (first | with_reducible exact HSub.refl _ | refine HSub.cons (by repeat (first | exact Take.here _ | apply Take.next | apply Take.app)) ?_ | refine HSub.app (by repeat (first | with_reducible exact TakeS.here _ | apply TakeS.next | apply TakeS.app)) ?_ | exact HSub.nil _ | exact HSub.refl _ | refine HSub.drop ?_ | refine HSub.dropS ?_))
  · skip
    refine W_exit rfl ?_
    refine W_seq ?_
    refine W_sr ?_
    refine W_assign rfl rfl ?_
    refine W_nil ?_
    refine W_block ?_
    refine W_loopC (X := Nat) [(0, _), (3, _)] (fun (k : Nat) => [(8, .int .i64 (k : Int))]) (fun _ => _) (fun _ => _) (fun (k : Nat) => k ≤ 8 ∧ V.take (10 + k) = U.take (10 + k)) (fun (k : Nat) => 8 - k) 0 ⟨by decide, by obtain rfl : i = 10 := (by omega); exact hi.2⟩ (sub_cons rfl (sub_cons rfl (sub_nil _))) (sub_cons rfl (sub_nil _)) rfl (by repeat (first | with_reducible exact HSub.refl _ | refine HSub.cons (by repeat (first | exact Take.here _ | apply Take.next | apply Take.app)) ?_ | refine HSub.app (by repeat (first | with_reducible exact TakeS.here _ | apply TakeS.next | apply TakeS.app)) ?_ | exact HSub.nil _ | exact HSub.refl _ | refine HSub.drop ?_ | refine HSub.dropS ?_)) ?_
    intro k hk
    simp only [List.cons_append, List.nil_append]
    refine W_seq ?_
    refine W_sr ?_
    refine W_move rfl rfl ?_
    refine W_bin rfl rfl b_lss rfl ?_
    refine W_nil ?_
    refine W_condPS (p := (k : Int) < 8) rfl (by simp) (fun c1 => ?_) (fun c1 => ?_)
    · skip
      refine W_skip ?_
      refine W_seq ?_
      refine W_block ?_
      refine W_sr ?_
      refine W_move rfl rfl ?_
      refine W_move rfl rfl ?_
      refine W_call (.cons rfl (.cons rfl .nil)) Tryd.call24 rfl ((Word_L (V := V) (at_ := (k : Int)) hV).hsub (.cons (by repeat (first | exact Take.here _ | apply Take.next | apply Take.app)) (.refl _))) ?_
      rintro v H' ⟨rfl, rfl⟩
      rw [rd_word' (by omega)]
      refine W_move rfl rfl ?_
      refine W_extract rfl rfl rfl ?_
      refine W_extract rfl rfl rfl ?_
      refine W_alloc ty50 rfl rfl (fun b9 => ?_)
      refine W_storeA rfl rfl ty50 rfl rfl (b := b9) (by repeat (first | exact List.mem_cons_self | apply List.mem_cons_of_mem | apply List.mem_append_right)) (by decide) rfl (by repeat (first | exact Upd.head _ | apply Upd.tail | apply Upd.app)) ?_
      refine W_assign rfl rfl ?_
      refine W_nil ?_
      refine W_quietsr (by kernel_rfl) (by decide +kernel) ?_
      refine WQ_x (X_move rfl) rfl ?_
      refine WQ_x (X_bin rfl rfl b_neq) rfl ?_
      refine WQ_x (X_move rfl) rfl ?_
      refine WQ_gyes rfl rfl ?_
      refine WQ_x (X_loadB (vs := vaC (V.getD (10 + k) zeroV)) rfl ty50 rfl (by repeat (first | exact List.mem_cons_self | apply List.mem_cons_of_mem | apply List.mem_append_right)) rfl rfl) rfl ?_
      refine WQ_gyes rfl rfl ?_
      refine WQ_callp (.cons rfl .nil) Tryd.call71 rfl (T := fun _ => True) trivial (Of_pure _) ?_
      refine WQ_gyes rfl rfl ?_
      refine WQ_x (X_move rfl) rfl ?_
      refine WQ_gyes rfl rfl ?_
      refine WQ_x (X_bin rfl rfl (b_add (m := ((10 + k : Nat) : Int)) ((i64w (by omega)).trans (by omega)))) rfl ?_
      refine WQ_gyes rfl rfl ?_
      refine WQ_x (X_fieldAddr rfl fld60_0 (by decide)) rfl ?_
      refine WQ_gyes rfl rfl ?_
      refine WQ_x (X_indexAddrA (j := (10 + k)) rfl rfl ty58 ty55 (by first | rfl | omega) (by first | decide | omega | simp) rfl) rfl ?_
      refine WQ_gyes rfl rfl ?_
      refine WQ_x (X_loadB (vs := vaC (U.getD (10 + k) zeroV)) rfl ty55 rfl (b := b3) (by repeat (first | exact List.mem_cons_self | apply List.mem_cons_of_mem | apply List.mem_append_right)) (by show Nat.ble _ (vaRow U).length = true; rw [vaRow_len, Nat.ble_eq]; omega) (by rw [Nat.zero_add]; exact va_at (getV hU (i := (10 + k)) (by omega)))) rfl ?_
      refine WQ_gyes rfl rfl ?_
      refine WQ_x (X_neF (f := vaC) rfl rfl flat55 agg55 vaC_like vaC_inj gt55 (by decide)) rfl ?_
      first | refine WQ_x (X_pickt rfl rfl) rfl ?_ | refine WQ_x (X_pickf rfl rfl) rfl ?_
      refine WQ_nil ?_
      refine W_condPS (p := ¬ V.getD (10 + k) zeroV = U.getD (10 + k) zeroV) rfl (by simp) (fun c2 => ?_) (fun c2 => ?_)
      · skip
        refine W_sr ?_
        refine W_assign rfl rfl ?_
        refine W_nil ?_
        refine W_ret1m (H2 := (bf, .cells 130 90 (vaRow V)) :: H) Tryd.results30 rfl (.nil _) (by repeat (first | with_reducible exact HSub.refl _ | refine HSub.cons (by repeat (first | exact Take.here _ | apply Take.next | apply Take.app)) ?_ | refine HSub.app (by repeat (first | with_reducible exact TakeS.here _ | apply TakeS.next | apply TakeS.app)) ?_ | exact HSub.nil _ | exact HSub.refl _ | refine HSub.drop ?_ | refine HSub.dropS ?_)) ?_
        exact ⟨by rw [decide_eq_false (getD_ne (by assumption))], rfl⟩
      · skip
        refine W_skip ?_
        refine W_blk ?_
        refine W_region ?_
        refine W_move rfl rfl ?_
        refine W_bin rfl rfl (b_add (m := ((k + 1 : Nat) : Int)) ((i64w (by omega)).trans (by omega))) rfl ?_
        refine W_assign rfl rfl ?_
        refine W_nil ?_
        refine W_again (k + 1) ⟨by omega, take_ext (k := 10 + k) (by omega) (by omega) hk.2 (by simpa using c2)⟩ (by omega) (sub_cons rfl (sub_cons rfl (sub_cons rfl (sub_nil _)))) rfl (by repeat (first | with_reducible exact HSub.refl _ | refine HSub.cons (by repeat (first | exact Take.here _ | apply Take.next | apply Take.app)) ?_ | refine HSub.app (by repeat (first | with_reducible exact TakeS.here _ | apply TakeS.next | apply TakeS.app)) ?_ | exact HSub.nil _ | exact HSub.refl _ | refine HSub.drop ?_ | refine HSub.dropS ?_))
    · skip
      refine W_exit rfl ?_
      refine W_sr ?_
      refine W_assign rfl rfl ?_
      refine W_nil ?_
      refine W_ret1m (H2 := (bf, .cells 130 90 (vaRow V)) :: H) Tryd.results30 rfl (.nil _) (by repeat (first | with_reducible exact HSub.refl _ | refine HSub.cons (by repeat (first | exact Take.here _ | apply Take.next | apply Take.app)) ?_ | refine HSub.app (by repeat (first | with_reducible exact TakeS.here _ | apply TakeS.next | apply TakeS.app)) ?_ | exact HSub.nil _ | exact HSub.refl _ | refine HSub.drop ?_ | refine HSub.dropS ?_)) ?_
      obtain rfl : k = 8 := by omega
      exact ⟨by rw [decide_eq_true (same_end hV hU hk.2)], rfl⟩
end Go.Proofs.YtkhkagjbeilbgaaDoor
