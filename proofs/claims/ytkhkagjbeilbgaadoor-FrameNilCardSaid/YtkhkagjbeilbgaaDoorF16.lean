/-
  Own work: contracts of functions that the statement reaches, and plain facts on what they compute; each theorem says its conditions.
-/
import Derived.Test.YtkhkagjbeilbgaaDoorF14
set_option linter.all false
set_option linter.unusedSimpArgs false
set_option linter.unusedVariables false
namespace Go.Proofs.YtkhkagjbeilbgaaDoor
open Go Go.Sl
attribute [local irreducible] W
set_option maxHeartbeats 1000000 in
theorem words_nil (at_ n : Int) : Pure Tryd.prog (fun _ => True) 73 [.pointer none, .int .i64 at_, .int .i64 n] (.tuple #[.slice none 0 0, .int .i64 6]) := by
  intro w0 H hT
  refine L_enter Tryd.func73 rfl Tryd.ntmps73 rfl rfl ?_
  refine W_sr ?_
  refine W_assign rfl rfl ?_
  refine W_assign rfl rfl ?_
  refine W_nil ?_
  refine W_seq ?_
  refine W_block ?_
  refine W_sr ?_
  refine W_move rfl rfl ?_
  refine W_x (X_ptrNil rfl rfl ty37) (fun _ h => by cases h) rfl ?_
  refine W_assign rfl rfl ?_
  refine W_nil ?_
  refine W_condT rfl rfl ?_
  refine W_sr ?_
  refine W_assign rfl rfl ?_
  refine W_assign rfl rfl ?_
  refine W_nil ?_
  refine W_ret2m (H2 := H) Tryd.results73 rfl rfl (.nil _) (by repeat (first | with_reducible exact HSub.refl _ | refine HSub.cons (by repeat (first | exact Take.here _ | apply Take.next | apply Take.app)) ?_ | refine HSub.app (by repeat (first | with_reducible exact TakeS.here _ | apply TakeS.next | apply TakeS.app)) ?_ | exact HSub.nil _ | exact HSub.refl _ | refine HSub.drop ?_ | refine HSub.dropS ?_)) ?_
  exact ⟨rfl, rfl⟩
set_option maxHeartbeats 1000000 in
theorem read_nil (at_ n : Int) : Pure Tryd.prog (fun _ => True) 34 [.pointer none, .int .i64 at_, .int .i64 n] (.tuple #[.slice none 0 0, .int .i64 6]) := by
  intro w0 H hT
  refine L_enter Tryd.func34 rfl Tryd.ntmps34 rfl rfl ?_
  refine W_sr ?_
  refine W_assign rfl rfl ?_
  refine W_assign rfl rfl ?_
  refine W_nil ?_
  refine W_sr ?_
  refine W_move rfl rfl ?_
  refine W_move rfl rfl ?_
  refine W_move rfl rfl ?_
  refine W_callp (.cons rfl (.cons rfl (.cons rfl .nil))) Tryd.call73 rfl (T := fun _ => True) trivial (words_nil _ _) ?_
  refine W_move rfl rfl ?_
  refine W_extract rfl rfl rfl ?_
  refine W_extract rfl rfl rfl ?_
  refine W_assign rfl rfl ?_
  refine W_assign rfl rfl ?_
  refine W_nil ?_
  refine W_seq ?_
  refine W_sr ?_
  refine W_move rfl rfl ?_
  refine W_bin rfl rfl b_neq rfl ?_
  refine W_nil ?_
  refine W_condT rfl rfl ?_
  refine W_sr ?_
  refine W_move rfl rfl ?_
  refine W_assign rfl rfl ?_
  refine W_assign rfl rfl ?_
  refine W_nil ?_
  refine W_ret2m (H2 := H) Tryd.results34 rfl rfl (.nil _) (by repeat (first | with_reducible exact HSub.refl _ | refine HSub.cons (by repeat (first | exact Take.here _ | apply Take.next | apply Take.app)) ?_ | refine HSub.app (by repeat (first | with_reducible exact TakeS.here _ | apply TakeS.next | apply TakeS.app)) ?_ | exact HSub.nil _ | exact HSub.refl _ | refine HSub.drop ?_ | refine HSub.dropS ?_)) ?_
  exact ⟨rfl, rfl⟩
set_option maxHeartbeats 1000000 in
theorem write_nil (at_ : Int) (ad : Option Addr) (n cap : Nat) : Pure Tryd.prog (fun _ => True) 32 [.pointer none, .int .i64 at_, .slice ad n cap] (.int .i64 6) := by
  intro w0 H hT
  refine L_enter Tryd.func32 rfl Tryd.ntmps32 rfl rfl ?_
  refine W_sr ?_
  refine W_assign rfl rfl ?_
  refine W_nil ?_
  refine W_sr ?_
  refine W_move rfl rfl ?_
  refine W_move rfl rfl ?_
  refine W_move rfl rfl ?_
  refine W_len rfl ty23 rfl rfl ?_
  refine W_bin rfl rfl (b_quo (by decide) rfl) rfl ?_
  refine W_callp (.cons rfl (.cons rfl (.cons rfl .nil))) Tryd.call73 rfl (T := fun _ => True) trivial (words_nil _ _) ?_
  refine W_move rfl rfl ?_
  refine W_extract rfl rfl rfl ?_
  refine W_extract rfl rfl rfl ?_
  refine W_assign rfl rfl ?_
  refine W_assign rfl rfl ?_
  refine W_nil ?_
  refine W_seq ?_
  refine W_block ?_
  refine W_sr ?_
  refine W_move rfl rfl ?_
  refine W_bin rfl rfl b_neq rfl ?_
  refine W_assign rfl rfl ?_
  refine W_nil ?_
  refine W_condT rfl rfl ?_
  refine W_sr ?_
  refine W_move rfl rfl ?_
  refine W_assign rfl rfl ?_
  refine W_nil ?_
  refine W_ret1m (H2 := H) Tryd.results32 rfl (.nil _) (by repeat (first | with_reducible exact HSub.refl _ | refine HSub.cons (by repeat (first | exact Take.here _ | apply Take.next | apply Take.app)) ?_ | refine HSub.app (by repeat (first | with_reducible exact TakeS.here _ | apply TakeS.next | apply TakeS.app)) ?_ | exact HSub.nil _ | exact HSub.refl _ | refine HSub.drop ?_ | refine HSub.dropS ?_)) ?_
  exact ⟨rfl, rfl⟩
set_option maxHeartbeats 1000000 in
theorem do_nil (x : Ins) : Pure Tryd.prog (fun _ => True) 21 [.pointer none, .agg #[.int .i64 x.op, .int .i64 x.dst, .int .i64 x.src, .int .i64 x.off, .int .i64 x.imm]] (.int .i64 6) := by
  intro w0 H hT
  refine L_enter Tryd.func21 rfl Tryd.ntmps21 rfl rfl ?_
  refine W_sr ?_
  refine W_box rfl rfl rfl (fun b3 => ?_)
  refine W_assign rfl rfl ?_
  refine W_nil ?_
  refine W_seq ?_
  refine W_sr ?_
  refine W_move rfl rfl ?_
  refine W_x (X_ptrNil rfl rfl ty37) (fun _ h => by cases h) rfl ?_
  refine W_nil ?_
  refine W_condT rfl rfl ?_
  refine W_sr ?_
  refine W_assign rfl rfl ?_
  refine W_nil ?_
  refine W_ret1m (H2 := H) Tryd.results21 rfl (.nil _) (by repeat (first | with_reducible exact HSub.refl _ | refine HSub.cons (by repeat (first | exact Take.here _ | apply Take.next | apply Take.app)) ?_ | refine HSub.app (by repeat (first | with_reducible exact TakeS.here _ | apply TakeS.next | apply TakeS.app)) ?_ | exact HSub.nil _ | exact HSub.refl _ | refine HSub.drop ?_ | refine HSub.dropS ?_)) ?_
  exact ⟨rfl, rfl⟩
set_option maxHeartbeats 1000000 in
theorem jumps_nil (x : Ins) : Pure Tryd.prog (fun _ => True) 36 [.pointer none, .agg #[.int .i64 x.op, .int .i64 x.dst, .int .i64 x.src, .int .i64 x.off, .int .i64 x.imm]] (.tuple #[.bool false, .int .i64 6]) := by
  intro w0 H hT
  refine L_enter Tryd.func36 rfl Tryd.ntmps36 rfl rfl ?_
  refine W_sr ?_
  refine W_box rfl rfl rfl (fun b3 => ?_)
  refine W_assign rfl rfl ?_
  refine W_assign rfl rfl ?_
  refine W_nil ?_
  refine W_seq ?_
  refine W_sr ?_
  refine W_move rfl rfl ?_
  refine W_x (X_ptrNil rfl rfl ty37) (fun _ h => by cases h) rfl ?_
  refine W_nil ?_
  refine W_condT rfl rfl ?_
  refine W_sr ?_
  refine W_assign rfl rfl ?_
  refine W_assign rfl rfl ?_
  refine W_nil ?_
  refine W_ret2m (H2 := H) Tryd.results36 rfl rfl (.nil _) (by repeat (first | with_reducible exact HSub.refl _ | refine HSub.cons (by repeat (first | exact Take.here _ | apply Take.next | apply Take.app)) ?_ | refine HSub.app (by repeat (first | with_reducible exact TakeS.here _ | apply TakeS.next | apply TakeS.app)) ?_ | exact HSub.nil _ | exact HSub.refl _ | refine HSub.drop ?_ | refine HSub.dropS ?_)) ?_
  exact ⟨rfl, rfl⟩
set_option maxHeartbeats 1000000 in
theorem args_nil  : Pure Tryd.prog (fun _ => True) 37 [.pointer none] (.agg (vaRow (List.replicate 5 zeroV)).toArray) := by
  intro w0 H hT
  refine L_enter Tryd.func37 rfl Tryd.ntmps37 rfl rfl ?_
  refine W_sr ?_
  refine W_alloc ty78 rfl rfl (fun b2 => ?_)
  refine W_nil ?_
  refine W_seq ?_
  refine W_sr ?_
  refine W_move rfl rfl ?_
  refine W_x (X_ptrNil rfl rfl ty37) (fun _ h => by cases h) rfl ?_
  refine W_nil ?_
  refine W_condT rfl rfl ?_
  refine W_sr ?_
  refine W_buildArr (l := vaRow (List.replicate 5 zeroV)) ty78 ty50 .nil rfl rfl rfl ?_
  refine W_storeA (l' := vaRow (List.replicate 5 zeroV)) rfl rfl ty78 rfl rfl (b := b2) (by repeat (first | exact List.mem_cons_self | apply List.mem_cons_of_mem | apply List.mem_append_right)) (by exact Nat.le_refl 25) rfl (by repeat (first | exact Upd.head _ | apply Upd.tail | apply Upd.app)) ?_
  refine W_nil ?_
  refine W_ret1cO (H2 := H) Tryd.results37 rfl (.nil _) ty78 rfl (by repeat (first | exact List.mem_cons_self | apply List.mem_cons_of_mem | apply List.mem_append_right)) rfl (by repeat (first | with_reducible exact HSub.refl _ | refine HSub.cons (by repeat (first | exact Take.here _ | apply Take.next | apply Take.app)) ?_ | refine HSub.app (by repeat (first | with_reducible exact TakeS.here _ | apply TakeS.next | apply TakeS.app)) ?_ | exact HSub.nil _ | exact HSub.refl _ | refine HSub.drop ?_ | refine HSub.dropS ?_)) ?_
  exact ⟨rfl, rfl⟩
set_option maxHeartbeats 4000000 in
theorem frameNil_pure {z : Int} {v : Va} {x : Ins} {ad : Option Addr} {n cap : Nat} : Pure Tryd.prog (Tab) 7 [.int .i64 z, .agg (vaC v).toArray, .agg x.C.toArray, .slice ad n cap] (.bool true) := by
  intro w0 H hT
  refine L_enter Tryd.func7 rfl Tryd.ntmps7 rfl rfl ?_
  refine W_sr ?_
  refine W_box rfl rfl rfl (fun b5 => ?_)
  refine W_box rfl rfl rfl (fun b6 => ?_)
  refine W_assign rfl rfl ?_
  refine W_nil ?_
  refine W_sr ?_
  refine W_assign rfl rfl ?_
  refine W_nil ?_
  refine W_sr ?_
  refine W_move rfl rfl ?_
  refine W_move rfl rfl ?_
  refine W_callp (.cons rfl (.cons rfl .nil)) Tryd.call23 rfl (T := fun _ => True) trivial (Reg_nil _) ?_
  refine W_move rfl rfl ?_
  refine W_extract rfl rfl rfl ?_
  refine W_extract rfl rfl rfl ?_
  refine W_alloc ty50 rfl rfl (fun b10 => ?_)
  refine W_storeA rfl rfl ty50 rfl rfl (b := b10) (by repeat (first | exact List.mem_cons_self | apply List.mem_cons_of_mem | apply List.mem_append_right)) (by decide) rfl (by repeat (first | exact Upd.head _ | apply Upd.tail | apply Upd.app)) ?_
  refine W_assign rfl rfl ?_
  refine W_nil ?_
  refine W_sr ?_
  refine W_move rfl rfl ?_
  refine W_move rfl rfl ?_
  refine W_callp (.cons rfl (.cons rfl .nil)) Tryd.call24 rfl (T := fun _ => True) trivial (Word_nil _) ?_
  refine W_move rfl rfl ?_
  refine W_extract rfl rfl rfl ?_
  refine W_extract rfl rfl rfl ?_
  refine W_alloc ty50 rfl rfl (fun b12 => ?_)
  refine W_storeA rfl rfl ty50 rfl rfl (b := b12) (by repeat (first | exact List.mem_cons_self | apply List.mem_cons_of_mem | apply List.mem_append_right)) (by decide) rfl (by repeat (first | exact Upd.head _ | apply Upd.tail | apply Upd.app)) ?_
  refine W_assign rfl rfl ?_
  refine W_nil ?_
  refine W_sr ?_
  refine W_move rfl rfl ?_
  refine W_loadB (vs := Ins.C x) rfl ty46 rfl (by repeat (first | exact List.mem_cons_self | apply List.mem_cons_of_mem | apply List.mem_append_right)) rfl rfl rfl ?_
  refine W_callp (.cons rfl .nil) Tryd.call22 rfl (T := fun _ => True) trivial (to15_pure x) ?_
  refine W_callp (.cons rfl (.cons rfl .nil)) Tryd.call36 rfl (T := fun _ => True) trivial (jumps_nil x) ?_
  refine W_move rfl rfl ?_
  refine W_extract rfl rfl rfl ?_
  refine W_extract rfl rfl rfl ?_
  refine W_assign rfl rfl ?_
  refine W_assign rfl rfl ?_
  refine W_nil ?_
  refine W_sr ?_
  refine W_move rfl rfl ?_
  refine W_move rfl rfl ?_
  refine W_move rfl rfl ?_
  refine W_callp (.cons rfl (.cons rfl (.cons rfl .nil))) Tryd.call34 rfl (T := fun _ => True) trivial (read_nil _ _) ?_
  refine W_move rfl rfl ?_
  refine W_extract rfl rfl rfl ?_
  refine W_extract rfl rfl rfl ?_
  refine W_assign rfl rfl ?_
  refine W_assign rfl rfl ?_
  refine W_nil ?_
  refine W_sr ?_
  refine W_move rfl rfl ?_
  refine W_callp (.cons rfl .nil) Tryd.call37 rfl (T := fun _ => True) trivial (args_nil ) ?_
  refine W_alloc ty78 rfl rfl (fun b18 => ?_)
  refine W_storeA (l' := vaRow (List.replicate 5 zeroV)) rfl rfl ty78 rfl rfl (b := b18) (by repeat (first | exact List.mem_cons_self | apply List.mem_cons_of_mem | apply List.mem_append_right)) (by exact Nat.le_refl 25) rfl (by repeat (first | exact Upd.head _ | apply Upd.tail | apply Upd.app)) ?_
  refine W_nil ?_
  refine W_quietsr (by kernel_rfl) (by decide +kernel) ?_
  refine WQ_callp .nil Tryd.call26 rfl hT (known_pure ) ?_
  refine WQ_x (X_move rfl) rfl ?_
  refine WQ_gyes rfl rfl ?_
  refine WQ_x (X_loadB (vs := vaC zeroV) rfl ty50 rfl (by repeat (first | exact List.mem_cons_self | apply List.mem_cons_of_mem | apply List.mem_append_right)) rfl rfl) rfl ?_
  refine WQ_gyes rfl rfl ?_
  refine WQ_callp (.cons rfl .nil) Tryd.call27 rfl (T := fun _ => True) trivial (Num_pure _) ?_
  refine WQ_gyes rfl rfl ?_
  refine WQ_x (X_eqF (f := vaC) rfl rfl flat50 agg50 vaC_like vaC_inj gt50 (by decide)) rfl ?_
  rw [decide_eq_true (p := zeroV = ⟨false, 0, 0, 0, 0⟩) rfl]
  first | refine WQ_x (X_pickt rfl rfl) rfl ?_ | refine WQ_x (X_pickf rfl rfl) rfl ?_
  refine WQ_x (X_move rfl) rfl ?_
  refine WQ_gyes rfl rfl ?_
  refine WQ_x (X_move rfl) rfl ?_
  refine WQ_gyes rfl rfl ?_
  refine WQ_x (X_bin rfl rfl b_eql) rfl ?_
  first | refine WQ_x (X_pickt rfl rfl) rfl ?_ | refine WQ_x (X_pickf rfl rfl) rfl ?_
  refine WQ_x (X_move rfl) rfl ?_
  refine WQ_gyes rfl rfl ?_
  refine WQ_x (X_loadB (vs := vaC zeroV) rfl ty50 rfl (by repeat (first | exact List.mem_cons_self | apply List.mem_cons_of_mem | apply List.mem_append_right)) rfl rfl) rfl ?_
  refine WQ_gyes rfl rfl ?_
  refine WQ_callp (.cons rfl .nil) Tryd.call27 rfl (T := fun _ => True) trivial (Num_pure _) ?_
  refine WQ_gyes rfl rfl ?_
  refine WQ_x (X_eqF (f := vaC) rfl rfl flat50 agg50 vaC_like vaC_inj gt50 (by decide)) rfl ?_
  rw [decide_eq_true (p := zeroV = ⟨false, 0, 0, 0, 0⟩) rfl]
  first | refine WQ_x (X_pickt rfl rfl) rfl ?_ | refine WQ_x (X_pickf rfl rfl) rfl ?_
  refine WQ_x (X_move rfl) rfl ?_
  refine WQ_gyes rfl rfl ?_
  refine WQ_x (X_move rfl) rfl ?_
  refine WQ_gyes rfl rfl ?_
  refine WQ_x (X_bin rfl rfl b_eql) rfl ?_
  first | refine WQ_x (X_pickt rfl rfl) rfl ?_ | refine WQ_x (X_pickf rfl rfl) rfl ?_
  refine WQ_x (X_move rfl) rfl ?_
  refine WQ_gyes rfl rfl ?_
  refine WQ_x (X_move rfl) rfl ?_
  refine WQ_gyes rfl rfl ?_
  refine WQ_x (X_move rfl) rfl ?_
  refine WQ_gyes rfl rfl ?_
  refine WQ_x (X_loadB (vs := vaC v) rfl ty55 rfl (by repeat (first | exact List.mem_cons_self | apply List.mem_cons_of_mem | apply List.mem_append_right)) rfl rfl) rfl ?_
  refine WQ_gyes rfl rfl ?_
  refine WQ_callp (.cons rfl .nil) Tryd.call25 rfl (T := fun _ => True) trivial (To_pure v) ?_
  refine WQ_gyes rfl rfl ?_
  refine WQ_callp (.cons rfl (.cons rfl (.cons rfl .nil))) Tryd.call29 rfl (T := fun _ => True) trivial (SetReg_nil _ v) ?_
  refine WQ_gyes rfl rfl ?_
  refine WQ_x (X_bin rfl rfl b_eql) rfl ?_
  first | refine WQ_x (X_pickt rfl rfl) rfl ?_ | refine WQ_x (X_pickf rfl rfl) rfl ?_
  refine WQ_x (X_move rfl) rfl ?_
  refine WQ_gyes rfl rfl ?_
  refine WQ_x (X_move rfl) rfl ?_
  refine WQ_gyes rfl rfl ?_
  refine WQ_x (X_move rfl) rfl ?_
  refine WQ_gyes rfl rfl ?_
  refine WQ_x (X_loadB (vs := vaC v) rfl ty55 rfl (by repeat (first | exact List.mem_cons_self | apply List.mem_cons_of_mem | apply List.mem_append_right)) rfl rfl) rfl ?_
  refine WQ_gyes rfl rfl ?_
  refine WQ_callp (.cons rfl .nil) Tryd.call25 rfl (T := fun _ => True) trivial (To_pure v) ?_
  refine WQ_gyes rfl rfl ?_
  refine WQ_callp (.cons rfl (.cons rfl (.cons rfl .nil))) Tryd.call28 rfl (T := fun _ => True) trivial (SetWord_nil _ v) ?_
  refine WQ_gyes rfl rfl ?_
  refine WQ_x (X_bin rfl rfl b_eql) rfl ?_
  first | refine WQ_x (X_pickt rfl rfl) rfl ?_ | refine WQ_x (X_pickf rfl rfl) rfl ?_
  refine WQ_x (X_move rfl) rfl ?_
  refine WQ_gyes rfl rfl ?_
  refine WQ_x (X_move rfl) rfl ?_
  refine WQ_gyes rfl rfl ?_
  refine WQ_x (X_loadB (vs := Ins.C x) rfl ty46 rfl (by repeat (first | exact List.mem_cons_self | apply List.mem_cons_of_mem | apply List.mem_append_right)) rfl rfl) rfl ?_
  refine WQ_gyes rfl rfl ?_
  refine WQ_callp (.cons rfl .nil) Tryd.call22 rfl (T := fun _ => True) trivial (to15_pure x) ?_
  refine WQ_gyes rfl rfl ?_
  refine WQ_callp (.cons rfl (.cons rfl .nil)) Tryd.call21 rfl (T := fun _ => True) trivial (do_nil x) ?_
  refine WQ_gyes rfl rfl ?_
  refine WQ_x (X_bin rfl rfl b_eql) rfl ?_
  first | refine WQ_x (X_pickt rfl rfl) rfl ?_ | refine WQ_x (X_pickf rfl rfl) rfl ?_
  refine WQ_x (X_move rfl) rfl ?_
  refine WQ_gyes rfl rfl ?_
  refine WQ_x (X_move rfl) rfl ?_
  refine WQ_gyes rfl rfl ?_
  refine WQ_x (X_not rfl) rfl ?_
  first | refine WQ_x (X_pickt rfl rfl) rfl ?_ | refine WQ_x (X_pickf rfl rfl) rfl ?_
  refine WQ_x (X_move rfl) rfl ?_
  refine WQ_gyes rfl rfl ?_
  refine WQ_x (X_move rfl) rfl ?_
  refine WQ_gyes rfl rfl ?_
  refine WQ_x (X_bin rfl rfl b_eql) rfl ?_
  first | refine WQ_x (X_pickt rfl rfl) rfl ?_ | refine WQ_x (X_pickf rfl rfl) rfl ?_
  refine WQ_x (X_move rfl) rfl ?_
  refine WQ_gyes rfl rfl ?_
  refine WQ_x (X_move rfl) rfl ?_
  refine WQ_gyes rfl rfl ?_
  refine WQ_x (X_len rfl ty23 rfl) rfl ?_
  refine WQ_gyes rfl rfl ?_
  refine WQ_x (X_bin rfl rfl b_eql) rfl ?_
  first | refine WQ_x (X_pickt rfl rfl) rfl ?_ | refine WQ_x (X_pickf rfl rfl) rfl ?_
  refine WQ_x (X_move rfl) rfl ?_
  refine WQ_gyes rfl rfl ?_
  refine WQ_x (X_move rfl) rfl ?_
  refine WQ_gyes rfl rfl ?_
  refine WQ_x (X_bin rfl rfl b_eql) rfl ?_
  first | refine WQ_x (X_pickt rfl rfl) rfl ?_ | refine WQ_x (X_pickf rfl rfl) rfl ?_
  refine WQ_x (X_move rfl) rfl ?_
  refine WQ_gyes rfl rfl ?_
  refine WQ_x (X_move rfl) rfl ?_
  refine WQ_gyes rfl rfl ?_
  refine WQ_x (X_move rfl) rfl ?_
  refine WQ_gyes rfl rfl ?_
  refine WQ_x (X_move rfl) rfl ?_
  refine WQ_gyes rfl rfl ?_
  refine WQ_callp (.cons rfl (.cons rfl (.cons rfl .nil))) Tryd.call32 rfl (T := fun _ => True) trivial (write_nil _ _ _ _) ?_
  refine WQ_gyes rfl rfl ?_
  refine WQ_x (X_bin rfl rfl b_eql) rfl ?_
  first | refine WQ_x (X_pickt rfl rfl) rfl ?_ | refine WQ_x (X_pickf rfl rfl) rfl ?_
  refine WQ_x (X_move rfl) rfl ?_
  refine WQ_gyes rfl rfl ?_
  refine WQ_x (X_indexAddrA (j := 0) rfl rfl ty78 ty50 (by first | rfl | omega) (by first | decide | omega | simp) rfl) rfl ?_
  refine WQ_gyes rfl rfl ?_
  refine WQ_x (X_loadB (vs := vaC zeroV) rfl ty50 rfl (by repeat (first | exact List.mem_cons_self | apply List.mem_cons_of_mem | apply List.mem_append_right)) rfl rfl) rfl ?_
  refine WQ_gyes rfl rfl ?_
  refine WQ_callp (.cons rfl .nil) Tryd.call27 rfl (T := fun _ => True) trivial (Num_pure _) ?_
  refine WQ_gyes rfl rfl ?_
  refine WQ_x (X_eqF (f := vaC) rfl rfl flat50 agg50 vaC_like vaC_inj gt50 (by decide)) rfl ?_
  rw [decide_eq_true (p := zeroV = ⟨false, 0, 0, 0, 0⟩) rfl]
  first | refine WQ_x (X_pickt rfl rfl) rfl ?_ | refine WQ_x (X_pickf rfl rfl) rfl ?_
  refine WQ_x (X_assign rfl) rfl ?_
  refine WQ_nil ?_
  refine W_ret1m (H2 := H) Tryd.results7 rfl (.nil _) (by repeat (first | with_reducible exact HSub.refl _ | refine HSub.cons (by repeat (first | exact Take.here _ | apply Take.next | apply Take.app)) ?_ | refine HSub.app (by repeat (first | with_reducible exact TakeS.here _ | apply TakeS.next | apply TakeS.app)) ?_ | exact HSub.nil _ | exact HSub.refl _ | refine HSub.drop ?_ | refine HSub.dropS ?_)) ?_
  exact ⟨rfl, rfl⟩
end Go.Proofs.YtkhkagjbeilbgaaDoor
