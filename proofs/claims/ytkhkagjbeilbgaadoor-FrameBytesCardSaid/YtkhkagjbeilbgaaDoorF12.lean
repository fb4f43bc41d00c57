/-
  Own work: contracts of functions that the statement reaches, and plain facts on what they compute; each theorem says its conditions.
-/
import Derived.Test.YtkhkagjbeilbgaaDoorF11
import Derived.Test.YtkhkagjbeilbgaaDoorSlFlatEq
set_option linter.all false
set_option linter.unusedSimpArgs false
set_option linter.unusedVariables false
namespace Go.Proofs.YtkhkagjbeilbgaaDoor
open Go Go.Sl
attribute [local irreducible] W
instance : Inhabited Va := ⟨⟨false, 0, 0, 0, 0⟩⟩
def Va.In (v : Va) : Prop := (-9223372036854775808 ≤ v.m ∧ v.m ≤ 9223372036854775807) ∧ (-9223372036854775808 ≤ v.slot ∧ v.slot ≤ 9223372036854775807) ∧ (-9223372036854775808 ≤ v.gen ∧ v.gen ≤ 9223372036854775807) ∧ (0 ≤ v.n ∧ v.n ≤ 18446744073709551615)
theorem vaC_len (v : Va) : (vaC v).length = 5 := rfl
theorem vaC_like (v : Va) : Likes [.bool, .int .i64, .int .i64, .int .i64, .int .u64] (vaC v) := ⟨⟨_, rfl⟩, ⟨_, rfl⟩, ⟨_, rfl⟩, ⟨_, rfl⟩, ⟨_, rfl⟩, trivial⟩
theorem vaC_inj (v w : Va) (h : vaC v = vaC w) : v = w := by
  cases v; cases w; simp only [vaC, List.cons.injEq, Value.int.injEq, Value.bool.injEq, Value.string.injEq, true_and, and_true] at h; simp only [Va.mk.injEq]; exact h
theorem vaC_of {cs : List Value} (h : Leafs [.bool, .int .i64, .int .i64, .int .i64, .int .u64] cs) : ∃ v : Va, cs = vaC v ∧ v.In := by
  obtain ⟨a0, c0, rfl, ⟨m0, rfl⟩, h0⟩ := leafs_cons h
  obtain ⟨a1, c1, rfl, ⟨m1, rfl, e1⟩, h1⟩ := leafs_cons h0
  obtain ⟨a2, c2, rfl, ⟨m2, rfl, e2⟩, h2⟩ := leafs_cons h1
  obtain ⟨a3, c3, rfl, ⟨m3, rfl, e3⟩, h3⟩ := leafs_cons h2
  obtain ⟨a4, c4, rfl, ⟨m4, rfl, e4⟩, h4⟩ := leafs_cons h3
  obtain rfl := leafs_nil h4
  exact ⟨⟨m0, m1, m2, m3, m4⟩, rfl, ⟨e1, e2, e3, e4⟩⟩
theorem flat50 : Flat Tryd.prog 2 50 [.bool, .int .i64, .int .i64, .int .i64, .int .u64] := (Flat.struct ty50 (by kernel_rfl) (by kernel_rfl) (.cons (ks := [.bool]) (by decide) rfl (by kernel_rfl) (Flat.leaf (k := .bool) ty4) (.cons (ks := [.int .i64]) (by decide) rfl (by kernel_rfl) (Flat.leaf (k := .int .i64) ty3) (.cons (ks := [.int .i64, .int .i64]) (by decide) rfl (by kernel_rfl) (Flat.struct ty48 (by kernel_rfl) (by kernel_rfl) (.cons (ks := [.int .i64]) (by decide) rfl (by kernel_rfl) (Flat.leaf (k := .int .i64) ty3) (.cons (ks := [.int .i64]) (by decide) rfl (by kernel_rfl) (Flat.leaf (k := .int .i64) ty3) .nil))) (.cons (ks := [.int .u64]) (by decide) rfl (by kernel_rfl) (Flat.leaf (k := .int .u64) ty22) .nil)))))
theorem agg50 : aggB Tryd.prog 50 = true := by kernel_rfl
theorem gt50 : Tryd.prog.eqGuardType Tryd.prog.depth 50 = false := by kernel_rfl
theorem ce50 : Tryd.prog.cellsOf 50 = 5 := by kernel_rfl
theorem flat55 : Flat Tryd.prog 1 55 [.bool, .int .i64, .int .i64, .int .i64, .int .u64] := (Flat.struct ty55 (by kernel_rfl) (by kernel_rfl) (.cons (ks := [.bool]) (by decide) rfl (by kernel_rfl) (Flat.leaf (k := .bool) ty4) (.cons (ks := [.int .i64]) (by decide) rfl (by kernel_rfl) (Flat.leaf (k := .int .i64) ty3) (.cons (ks := [.int .i64]) (by decide) rfl (by kernel_rfl) (Flat.leaf (k := .int .i64) ty3) (.cons (ks := [.int .i64]) (by decide) rfl (by kernel_rfl) (Flat.leaf (k := .int .i64) ty3) (.cons (ks := [.int .u64]) (by decide) rfl (by kernel_rfl) (Flat.leaf (k := .int .u64) ty22) .nil))))))
theorem agg55 : aggB Tryd.prog 55 = true := by kernel_rfl
theorem gt55 : Tryd.prog.eqGuardType Tryd.prog.depth 55 = false := by kernel_rfl
theorem ce55 : Tryd.prog.cellsOf 55 = 5 := by kernel_rfl
set_option maxHeartbeats 1000000 in
theorem to15_pure (x : Ins) : Pure Tryd.prog (fun _ => True) 22 [.agg #[.int .i64 x.op, .int .i64 x.dst, .int .i64 x.src, .int .i64 x.off, .int .i64 x.imm]] (.agg #[.int .i64 x.op, .int .i64 x.dst, .int .i64 x.src, .int .i64 x.off, .int .i64 x.imm]) := by
  intro w0 H hT
  refine L_enter Tryd.func22 rfl Tryd.ntmps22 rfl rfl ?_
  refine W_sr ?_
  refine W_box rfl rfl rfl (fun b1 => ?_)
  refine W_alloc ty44 rfl rfl (fun b2 => ?_)
  refine W_nil ?_
  refine W_sr ?_
  refine W_fieldAddr rfl fld46_0 (by decide) rfl ?_
  refine W_load rfl ty3 rfl (Cell.own (by repeat (first | exact List.mem_cons_self | apply List.mem_cons_of_mem | apply List.mem_append_right)) rfl) rfl ?_
  refine W_fieldAddr rfl fld46_1 (by decide) rfl ?_
  refine W_load rfl ty3 rfl (Cell.own (by repeat (first | exact List.mem_cons_self | apply List.mem_cons_of_mem | apply List.mem_append_right)) rfl) rfl ?_
  refine W_fieldAddr rfl fld46_2 (by decide) rfl ?_
  refine W_load rfl ty3 rfl (Cell.own (by repeat (first | exact List.mem_cons_self | apply List.mem_cons_of_mem | apply List.mem_append_right)) rfl) rfl ?_
  refine W_fieldAddr rfl fld46_3 (by decide) rfl ?_
  refine W_load rfl ty3 rfl (Cell.own (by repeat (first | exact List.mem_cons_self | apply List.mem_cons_of_mem | apply List.mem_append_right)) rfl) rfl ?_
  refine W_fieldAddr rfl fld46_4 (by decide) rfl ?_
  refine W_load rfl ty3 rfl (Cell.own (by repeat (first | exact List.mem_cons_self | apply List.mem_cons_of_mem | apply List.mem_append_right)) rfl) rfl ?_
  refine W_build ty44 pl44 (.cons rfl rfl rfl rfl rfl (.cons rfl rfl rfl rfl rfl (.cons rfl rfl rfl rfl rfl (.cons rfl rfl rfl rfl rfl (.cons rfl rfl rfl rfl rfl .nil))))) rfl (by simp only [fillL, spliceL, Value.cells, List.take_zero, List.take_succ_cons, List.take_nil, List.drop_zero, List.drop_succ_cons, List.drop_nil, List.nil_append, List.cons_append, List.append_nil, List.length_cons, List.length_nil, Nat.zero_add, Nat.reduceAdd, List.toList_toArray]; rfl) rfl ?_
  refine W_storeA rfl rfl ty44 rfl rfl (by repeat (first | exact List.mem_cons_self | apply List.mem_cons_of_mem | apply List.mem_append_right)) (Nat.le_of_ble_eq_true rfl) (by simp only [fillL, spliceL, Value.cells, List.take_zero, List.take_succ_cons, List.take_nil, List.drop_zero, List.drop_succ_cons, List.drop_nil, List.nil_append, List.cons_append, List.append_nil, List.length_cons, List.length_nil, Nat.zero_add, Nat.reduceAdd, List.toList_toArray]; rfl) (by repeat (first | exact Upd.head _ | apply Upd.tail | apply Upd.app)) ?_
  refine W_nil ?_
  refine W_ret1cO (H2 := H) Tryd.results22 rfl (.nil _) ty44 rfl (by repeat (first | exact List.mem_cons_self | apply List.mem_cons_of_mem | apply List.mem_append_right)) rfl (by repeat (first | with_reducible exact HSub.refl _ | refine HSub.cons (by repeat (first | exact Take.here _ | apply Take.next | apply Take.app)) ?_ | refine HSub.app (by repeat (first | with_reducible exact TakeS.here _ | apply TakeS.next | apply TakeS.app)) ?_ | exact HSub.nil _ | exact HSub.refl _ | refine HSub.drop ?_ | refine HSub.dropS ?_)) ?_
  exact ⟨rfl, rfl⟩

def kf0 : List Va := newV [⟨false, 0, 0, 0, 5⟩]
def kg0 : List Va := newV [⟨true, 1, 0, 1, 1⟩]
def kx : Ins := ⟨0, 1, 0, 0, 2⟩
def ky : Ins := ⟨27, 2, 1, 0, 0⟩
def kz : Ins := ⟨34, 2, 0, 3, 0⟩
def kf1 : List Va := zeroV :: ⟨false, 0, 0, 0, 7⟩ :: List.replicate 16 zeroV
def kg1 : List Va := zeroV :: ⟨true, 1, 0, 1, 1⟩ :: ⟨true, 1, 0, 1, 1⟩ :: List.replicate 15 zeroV
theorem kd1 : doV kf0 kx = (kf1, 0) := by decide +kernel
theorem kd2 : doV kg0 kx = (kg0, 17) := by decide +kernel
theorem kd3 : doV kg0 ky = (kg1, 0) := by decide +kernel
theorem kd4 : rdV kf1 false 1 = (⟨false, 0, 0, 0, 7⟩, 0) := by decide +kernel
theorem kd5 : rdV kg1 false 2 = (⟨true, 1, 0, 1, 1⟩, 0) := by decide +kernel
theorem kd6 : jumpV kg1 kz = (true, 0) := by decide +kernel
theorem kw : (∀ v ∈ kf0, 0 ≤ v.n) ∧ (∀ v ∈ kg0, 0 ≤ v.n) ∧ (∀ v ∈ kg1, 0 ≤ v.n) := by decide +kernel
set_option maxHeartbeats 1000000 in
theorem known_pure  : Pure Tryd.prog (Tab) 26 [] (.bool true) := by
  intro w0 H hT
  refine L_enter Tryd.func26 rfl Tryd.ntmps26 rfl rfl ?_
  refine W_sr ?_
  refine W_assign rfl rfl ?_
  refine W_nil ?_
  refine W_sr ?_
  refine W_callp (.cons rfl .nil) Tryd.call27 rfl (T := fun _ => True) trivial (Num_pure _) ?_
  refine W_buildSlice (l := vaC ⟨false, 0, 0, 0, 5⟩) ty40 ty50 (.cons rfl rfl rfl rfl rfl .nil) rfl rfl rfl rfl rfl rfl rfl (fun b14 => ?_)
  refine W_call (.cons rfl .nil) Tryd.call19 rfl (New_L (l := [⟨false, 0, 0, 0, 5⟩]) (by decide) (Holds.own (by repeat (first | exact List.mem_cons_self | apply List.mem_cons_of_mem | apply List.mem_append_right)))) ?_
  rintro v H' ⟨bf, rfl, rfl⟩
  rw [show newV [⟨false, 0, 0, 0, 5⟩] = kf0 from rfl]
  refine W_move rfl rfl ?_
  refine W_extract rfl rfl rfl ?_
  refine W_extract rfl rfl rfl ?_
  refine W_assign rfl rfl ?_
  refine W_assign rfl rfl ?_
  refine W_nil ?_
  refine W_sr ?_
  refine W_build ty48 pl48 (.cons rfl rfl rfl rfl rfl (.cons rfl rfl rfl rfl rfl .nil)) rfl (by simp only [fillL, spliceL, Value.cells, List.take_zero, List.take_succ_cons, List.take_nil, List.drop_zero, List.drop_succ_cons, List.drop_nil, List.nil_append, List.cons_append, List.append_nil, List.length_cons, List.length_nil, Nat.zero_add, Nat.reduceAdd, List.toList_toArray]; rfl) rfl ?_
  refine W_alloc ty48 rfl rfl (fun b3 => ?_)
  refine W_storeA rfl rfl ty48 rfl rfl (by repeat (first | exact List.mem_cons_self | apply List.mem_cons_of_mem | apply List.mem_append_right)) (Nat.le_of_ble_eq_true rfl) (by simp only [fillL, spliceL, Value.cells, List.take_zero, List.take_succ_cons, List.take_nil, List.drop_zero, List.drop_succ_cons, List.drop_nil, List.nil_append, List.cons_append, List.append_nil, List.length_cons, List.length_nil, Nat.zero_add, Nat.reduceAdd, List.toList_toArray]; rfl) (by repeat (first | exact Upd.head _ | apply Upd.tail | apply Upd.app)) ?_
  refine W_nil ?_
  refine W_sr ?_
  refine W_loadB rfl ty48 rfl (by repeat (first | exact List.mem_cons_self | apply List.mem_cons_of_mem | apply List.mem_append_right)) rfl (by simp only [fillL, spliceL, Value.cells, List.take_zero, List.take_succ_cons, List.take_nil, List.drop_zero, List.drop_succ_cons, List.drop_nil, List.nil_append, List.cons_append, List.append_nil, List.length_cons, List.length_nil, Nat.zero_add, Nat.reduceAdd, List.toList_toArray]; rfl) rfl ?_
  refine W_callp (.cons rfl (.cons rfl .nil)) Tryd.call69 rfl (T := fun _ => True) trivial (RefTo_pure _ _ _) ?_
  refine W_buildSlice (l := vaC ⟨true, 1, 0, 1, 1⟩) ty40 ty50 (.cons rfl rfl rfl rfl rfl .nil) rfl rfl rfl rfl rfl rfl rfl (fun b22 => ?_)
  refine W_call (.cons rfl .nil) Tryd.call19 rfl (New_L (l := [⟨true, 1, 0, 1, 1⟩]) (by decide) (Holds.own (by repeat (first | exact List.mem_cons_self | apply List.mem_cons_of_mem | apply List.mem_append_right)))) ?_
  rintro v H' ⟨bg, rfl, rfl⟩
  rw [show newV [⟨true, 1, 0, 1, 1⟩] = kg0 from rfl]
  refine W_move rfl rfl ?_
  refine W_extract rfl rfl rfl ?_
  refine W_extract rfl rfl rfl ?_
  refine W_assign rfl rfl ?_
  refine W_assign rfl rfl ?_
  refine W_nil ?_
  refine W_seq ?_
  refine W_sr ?_
  refine W_move rfl rfl ?_
  refine W_bin rfl rfl b_neq rfl ?_
  refine W_move rfl rfl ?_
  refine W_gyes rfl rfl ?_
  refine W_move rfl rfl ?_
  refine W_gyes rfl rfl ?_
  refine W_bin rfl rfl b_neq rfl ?_
  first | refine W_pickt rfl rfl rfl ?_ | refine W_pickf rfl rfl rfl ?_
  refine W_move rfl rfl ?_
  refine W_gyes rfl rfl ?_
  refine W_move rfl rfl ?_
  refine W_gyes rfl rfl ?_
  refine W_build ty44 pl44 (.cons rfl rfl rfl rfl rfl (.cons rfl rfl rfl rfl rfl (.cons rfl rfl rfl rfl rfl .nil))) rfl (by simp only [fillL, spliceL, Value.cells, List.take_zero, List.take_succ_cons, List.take_nil, List.drop_zero, List.drop_succ_cons, List.drop_nil, List.nil_append, List.cons_append, List.append_nil, List.length_cons, List.length_nil, Nat.zero_add, Nat.reduceAdd, List.toList_toArray]; rfl) rfl ?_
  refine W_gyes rfl rfl ?_
  refine W_call (.cons rfl (.cons rfl .nil)) Tryd.call21 rfl ((Do_L (V := kf0) (x := kx) rfl (by decide) kw.1 hT).hsub (.cons (by repeat (first | exact Take.here _ | apply Take.next | apply Take.app)) (.refl _))) ?_
  rintro v H' ⟨rfl, rfl⟩
  rw [kd1]
  refine W_gyes rfl rfl ?_
  refine W_bin rfl rfl b_neq rfl ?_
  first | refine W_pickt rfl rfl rfl ?_ | refine W_pickf rfl rfl rfl ?_
  refine W_move rfl rfl ?_
  refine W_gyes rfl rfl ?_
  refine W_move rfl rfl ?_
  refine W_gyes rfl rfl ?_
  refine W_build ty44 pl44 (.cons rfl rfl rfl rfl rfl (.cons rfl rfl rfl rfl rfl (.cons rfl rfl rfl rfl rfl .nil))) rfl (by simp only [fillL, spliceL, Value.cells, List.take_zero, List.take_succ_cons, List.take_nil, List.drop_zero, List.drop_succ_cons, List.drop_nil, List.nil_append, List.cons_append, List.append_nil, List.length_cons, List.length_nil, Nat.zero_add, Nat.reduceAdd, List.toList_toArray]; rfl) rfl ?_
  refine W_gyes rfl rfl ?_
  refine W_call (.cons rfl (.cons rfl .nil)) Tryd.call21 rfl ((Do_L (V := kg0) (x := kx) rfl (by decide) kw.2.1 hT).hsub (.cons (by repeat (first | exact Take.here _ | apply Take.next | apply Take.app)) (.refl _))) ?_
  rintro v H' ⟨rfl, rfl⟩
  rw [kd2]
  refine W_gyes rfl rfl ?_
  refine W_bin rfl rfl b_neq rfl ?_
  first | refine W_pickt rfl rfl rfl ?_ | refine W_pickf rfl rfl rfl ?_
  refine W_move rfl rfl ?_
  refine W_gyes rfl rfl ?_
  refine W_move rfl rfl ?_
  refine W_gyes rfl rfl ?_
  refine W_build ty44 pl44 (.cons rfl rfl rfl rfl rfl (.cons rfl rfl rfl rfl rfl (.cons rfl rfl rfl rfl rfl .nil))) rfl (by simp only [fillL, spliceL, Value.cells, List.take_zero, List.take_succ_cons, List.take_nil, List.drop_zero, List.drop_succ_cons, List.drop_nil, List.nil_append, List.cons_append, List.append_nil, List.length_cons, List.length_nil, Nat.zero_add, Nat.reduceAdd, List.toList_toArray]; rfl) rfl ?_
  refine W_gyes rfl rfl ?_
  refine W_call (.cons rfl (.cons rfl .nil)) Tryd.call21 rfl ((Do_L (V := kg0) (x := ky) rfl (by decide) kw.2.1 hT).hsub (.cons (by repeat (first | exact Take.here _ | apply Take.next | apply Take.app)) (.refl _))) ?_
  rintro v H' ⟨rfl, rfl⟩
  rw [kd3]
  refine W_gyes rfl rfl ?_
  refine W_bin rfl rfl b_neq rfl ?_
  first | refine W_pickt rfl rfl rfl ?_ | refine W_pickf rfl rfl rfl ?_
  refine W_nil ?_
  refine W_condF rfl rfl ?_
  refine W_skip ?_
  refine W_sr ?_
  refine W_move rfl rfl ?_
  refine W_call (.cons rfl (.cons rfl .nil)) Tryd.call23 rfl ((Reg_L (V := kf1) (at_ := 1) rfl).hsub (.cons (by repeat (first | exact Take.here _ | apply Take.next | apply Take.app)) (.refl _))) ?_
  rintro v H' ⟨rfl, rfl⟩
  rw [kd4]
  refine W_move rfl rfl ?_
  refine W_extract rfl rfl rfl ?_
  refine W_extract rfl rfl rfl ?_
  refine W_alloc ty50 rfl rfl (fun b6 => ?_)
  refine W_storeA rfl rfl ty50 rfl rfl (b := b6) (by repeat (first | exact List.mem_cons_self | apply List.mem_cons_of_mem | apply List.mem_append_right)) (by decide) rfl (by repeat (first | exact Upd.head _ | apply Upd.tail | apply Upd.app)) ?_
  refine W_assign rfl rfl ?_
  refine W_nil ?_
  refine W_sr ?_
  refine W_move rfl rfl ?_
  refine W_call (.cons rfl (.cons rfl .nil)) Tryd.call23 rfl ((Reg_L (V := kg1) (at_ := 2) rfl).hsub (.cons (by repeat (first | exact Take.here _ | apply Take.next | apply Take.app)) (.refl _))) ?_
  rintro v H' ⟨rfl, rfl⟩
  rw [kd5]
  refine W_move rfl rfl ?_
  refine W_extract rfl rfl rfl ?_
  refine W_extract rfl rfl rfl ?_
  refine W_alloc ty50 rfl rfl (fun b8 => ?_)
  refine W_storeA rfl rfl ty50 rfl rfl (b := b8) (by repeat (first | exact List.mem_cons_self | apply List.mem_cons_of_mem | apply List.mem_append_right)) (by decide) rfl (by repeat (first | exact Upd.head _ | apply Upd.tail | apply Upd.app)) ?_
  refine W_assign rfl rfl ?_
  refine W_nil ?_
  refine W_sr ?_
  refine W_move rfl rfl ?_
  refine W_build ty44 pl44 (.cons rfl rfl rfl rfl rfl (.cons rfl rfl rfl rfl rfl (.cons rfl rfl rfl rfl rfl .nil))) rfl (by simp only [fillL, spliceL, Value.cells, List.take_zero, List.take_succ_cons, List.take_nil, List.drop_zero, List.drop_succ_cons, List.drop_nil, List.nil_append, List.cons_append, List.append_nil, List.length_cons, List.length_nil, Nat.zero_add, Nat.reduceAdd, List.toList_toArray]; rfl) rfl ?_
  refine W_call (.cons rfl (.cons rfl .nil)) Tryd.call36 rfl ((Jumps_L (V := kg1) (x := kz) rfl (by decide) kw.2.2 hT).hsub (.cons (by repeat (first | exact Take.here _ | apply Take.next | apply Take.app)) (.refl _))) ?_
  rintro v H' ⟨rfl, rfl⟩
  rw [kd6]
  refine W_move rfl rfl ?_
  refine W_extract rfl rfl rfl ?_
  refine W_extract rfl rfl rfl ?_
  refine W_assign rfl rfl ?_
  refine W_assign rfl rfl ?_
  refine W_nil ?_
  refine W_quietsr (by kernel_rfl) (by decide +kernel) ?_
  refine WQ_x (X_loadB (vs := vaC ⟨false, 0, 0, 0, 7⟩) rfl ty50 rfl (by repeat (first | exact List.mem_cons_self | apply List.mem_cons_of_mem | apply List.mem_append_right)) rfl rfl) rfl ?_
  refine WQ_callp (.cons rfl .nil) Tryd.call27 rfl (T := fun _ => True) trivial (Num_pure _) ?_
  refine WQ_x (X_eqF (f := vaC) rfl rfl flat50 agg50 vaC_like vaC_inj gt50 (by decide)) rfl ?_
  rw [decide_eq_true (rfl : (⟨false, 0, 0, 0, 7⟩ : Va) = _)]
  refine WQ_x (X_move rfl) rfl ?_
  refine WQ_gyes rfl rfl ?_
  refine WQ_x (X_loadB (vs := vaC ⟨true, 1, 0, 1, 1⟩) rfl ty50 rfl (by repeat (first | exact List.mem_cons_self | apply List.mem_cons_of_mem | apply List.mem_append_right)) rfl rfl) rfl ?_
  refine WQ_gyes rfl rfl ?_
  refine WQ_x (X_loadB rfl ty48 rfl (by repeat (first | exact List.mem_cons_self | apply List.mem_cons_of_mem | apply List.mem_append_right)) rfl (by simp only [fillL, spliceL, Value.cells, List.take_zero, List.take_succ_cons, List.take_nil, List.drop_zero, List.drop_succ_cons, List.drop_nil, List.nil_append, List.cons_append, List.append_nil, List.length_cons, List.length_nil, Nat.zero_add, Nat.reduceAdd, List.toList_toArray]; rfl)) rfl ?_
  refine WQ_gyes rfl rfl ?_
  refine WQ_callp (.cons rfl (.cons rfl .nil)) Tryd.call69 rfl (T := fun _ => True) trivial (RefTo_pure _ _ _) ?_
  refine WQ_gyes rfl rfl ?_
  refine WQ_x (X_eqF (f := vaC) rfl rfl flat50 agg50 vaC_like vaC_inj gt50 (by decide)) rfl ?_
  rw [decide_eq_true (rfl : (⟨true, 1, 0, 1, 1⟩ : Va) = _)]
  first | refine WQ_x (X_pickt rfl rfl) rfl ?_ | refine WQ_x (X_pickf rfl rfl) rfl ?_
  refine WQ_x (X_move rfl) rfl ?_
  refine WQ_gyes rfl rfl ?_
  refine WQ_x (X_fieldAddr rfl fld50_0 (by decide)) rfl ?_
  refine WQ_gyes rfl rfl ?_
  refine WQ_x (X_load rfl ty4 rfl (Cell.own (by repeat (first | exact List.mem_cons_self | apply List.mem_cons_of_mem | apply List.mem_append_right)) rfl)) rfl ?_
  first | refine WQ_x (X_pickt rfl rfl) rfl ?_ | refine WQ_x (X_pickf rfl rfl) rfl ?_
  refine WQ_x (X_move rfl) rfl ?_
  refine WQ_gyes rfl rfl ?_
  refine WQ_x (X_fieldAddr rfl fld50_3 (by decide)) rfl ?_
  refine WQ_gyes rfl rfl ?_
  refine WQ_x (X_load rfl ty22 rfl (Cell.own (by repeat (first | exact List.mem_cons_self | apply List.mem_cons_of_mem | apply List.mem_append_right)) rfl)) rfl ?_
  refine WQ_gyes rfl rfl ?_
  refine WQ_x (X_bin rfl rfl b_eql) rfl ?_
  first | refine WQ_x (X_pickt rfl rfl) rfl ?_ | refine WQ_x (X_pickf rfl rfl) rfl ?_
  refine WQ_x (X_move rfl) rfl ?_
  refine WQ_gyes rfl rfl ?_
  refine WQ_x (X_move rfl) rfl ?_
  first | refine WQ_x (X_pickt rfl rfl) rfl ?_ | refine WQ_x (X_pickf rfl rfl) rfl ?_
  refine WQ_x (X_assign rfl) rfl ?_
  refine WQ_nil ?_
  refine W_ret1m (H2 := H) Tryd.results26 rfl (.nil _) (by repeat (first | with_reducible exact HSub.refl _ | refine HSub.cons (by repeat (first | exact Take.here _ | apply Take.next | apply Take.app)) ?_ | refine HSub.app (by repeat (first | with_reducible exact TakeS.here _ | apply TakeS.next | apply TakeS.app)) ?_ | exact HSub.nil _ | exact HSub.refl _ | refine HSub.drop ?_ | refine HSub.dropS ?_)) ?_
  exact ⟨rfl, rfl⟩
end Go.Proofs.YtkhkagjbeilbgaaDoor
