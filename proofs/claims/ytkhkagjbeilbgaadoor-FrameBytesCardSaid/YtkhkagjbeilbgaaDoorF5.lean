/-
  Own work: contracts of functions that the statement reaches, and plain facts on what they compute; each theorem says its conditions.
-/
import Derived.Test.YtkhkagjbeilbgaaDoorF4
import Derived.Test.YtkhkagjbeilbgaaDoorSlTwo
set_option linter.all false
set_option linter.unusedSimpArgs false
set_option linter.unusedVariables false
namespace Go.Proofs.YtkhkagjbeilbgaaDoor
open Go Go.Sl
attribute [local irreducible] W

/-- what an operation of class Alu does -/
def sumV (V : List Va) (x : Ins) : List Va × Int :=
  if x.op = 11 ∨ x.op = 27 then (V.set x.dst.toNat (othr V x), 0)
  else if (V.getD x.dst.toNat zeroV).ref = true ∨ (othr V x).ref = true then (V, 17)
  else (V.set x.dst.toNat ⟨false, 0, 0, 0, doS (plainOf x.op) (V.getD x.dst.toNat zeroV).n (othr V x).n⟩, 0)
set_option maxHeartbeats 1000000 in
theorem sum_L {w0 : World} {H : Heap} {bf : Nat} {V : List Va} {x : Ins} (hV : V.length = 18) (hc : cls x.op = 1) (hop : -9223372036854775808 ≤ x.op ∧ x.op ≤ 9223372036854775807) (hn : 0 ≤ (othr V x).n) (hd : 0 ≤ x.dst ∧ x.dst < 10) (hs : 0 ≤ x.src ∧ x.src < 10) (hT : Tab w0) : LCalls Tryd.prog w0 67 #[.pointer (some ⟨bf, 0, none⟩), .agg #[.int .i64 x.op, .int .i64 x.dst, .int .i64 x.src, .int .i64 x.off, .int .i64 x.imm]] ((bf, .cells 130 90 (vaRow V)) :: H) (fun v H' => v = .int .i64 (sumV V x).2 ∧ H' = (bf, .cells 130 90 (vaRow (sumV V x).1)) :: H) := by
  obtain ⟨dn, hdn⟩ : ∃ dn : Nat, x.dst = (dn : Int) := ⟨x.dst.toNat, by omega⟩
  have hdT : x.dst.toNat = dn := by omega
  refine L_enter (l := [.pointer (some ⟨bf, 0, none⟩), .agg #[.int .i64 x.op, .int .i64 x.dst, .int .i64 x.src, .int .i64 x.off, .int .i64 x.imm]]) Tryd.func67 rfl Tryd.ntmps67 rfl rfl ?_
  refine W_sr ?_
  refine W_box rfl rfl rfl (fun b3 => ?_)
  refine W_assign rfl rfl ?_
  refine W_nil ?_
  refine W_sr ?_
  refine W_move rfl rfl ?_
  refine W_loadB rfl ty44 rfl (by repeat (first | exact List.mem_cons_self | apply List.mem_cons_of_mem | apply List.mem_append_right)) rfl (by simp only [fillL, spliceL, Value.cells, List.take_zero, List.take_succ_cons, List.take_nil, List.drop_zero, List.drop_succ_cons, List.drop_nil, List.nil_append, List.cons_append, List.append_nil, List.length_cons, List.length_nil, Nat.zero_add, Nat.reduceAdd, List.toList_toArray]; rfl) rfl ?_
  refine W_call (.cons rfl (.cons rfl .nil)) Tryd.call74 rfl ((operands_L (H := (b3, .cells 44 5 [.int .i64 x.op, .int .i64 x.dst, .int .i64 x.src, .int .i64 x.off, .int .i64 x.imm]) :: H) hV hd hs hT).hsub (by repeat (first | with_reducible exact HSub.refl _ | refine HSub.cons (by repeat (first | exact Take.here _ | apply Take.next | apply Take.app)) ?_ | refine HSub.app (by repeat (first | with_reducible exact TakeS.here _ | apply TakeS.next | apply TakeS.app)) ?_ | exact HSub.nil _ | exact HSub.refl _ | refine HSub.drop ?_ | refine HSub.dropS ?_))) ?_
  rintro v H' ⟨rfl, rfl⟩
  refine W_move rfl rfl ?_
  refine W_extract rfl rfl rfl ?_
  refine W_extract rfl rfl rfl ?_
  refine W_alloc ty50 rfl rfl (fun b5 => ?_)
  refine W_alloc ty50 rfl rfl (fun b6 => ?_)
  refine W_storeA rfl rfl ty50 rfl rfl (b := b5) (by repeat (first | exact List.mem_cons_self | apply List.mem_cons_of_mem | apply List.mem_append_right)) (by decide) rfl (by repeat (first | exact Upd.head _ | apply Upd.tail | apply Upd.app)) ?_
  refine W_storeA rfl rfl ty50 rfl rfl (b := b6) (by repeat (first | exact List.mem_cons_self | apply List.mem_cons_of_mem | apply List.mem_append_right)) (by decide) rfl (by repeat (first | exact Upd.head _ | apply Upd.tail | apply Upd.app)) ?_
  refine W_nil ?_
  refine W_seq ?_
  refine W_block ?_
  refine W_sr ?_
  refine W_fieldAddr rfl fld44_0 (by decide) rfl ?_
  refine W_load rfl ty3 rfl (Cell.own (by repeat (first | exact List.mem_cons_self | apply List.mem_cons_of_mem | apply List.mem_append_right)) rfl) rfl ?_
  refine W_bin rfl rfl b_eql rfl ?_
  refine W_move rfl rfl ?_
  apply W_or
  iterate 4 exact rfl
  case h1 =>
    intro hg3
    refine W_gyes rfl rfl ?_
    refine W_fieldAddr rfl fld44_0 (by decide) rfl ?_
    refine W_gyes rfl rfl ?_
    refine W_load rfl ty3 rfl (Cell.own (by repeat (first | exact List.mem_cons_self | apply List.mem_cons_of_mem | apply List.mem_append_right)) rfl) rfl ?_
    refine W_gyes rfl rfl ?_
    refine W_bin rfl rfl b_eql rfl ?_
    exact W_met rfl (by repeat (first | exact .refl | refine .cons rfl ?_))
  refine W_assign rfl rfl ?_
  refine W_nil ?_
  refine W_condS rfl (fun c0 => ?_) (fun c0 => ?_)
  · simp only [cond_true, cond_false, Bool.and_eq_true, Bool.or_eq_true, Bool.and_eq_false_iff, Bool.or_eq_false_iff, decide_eq_true_eq, decide_eq_false_iff_not, Bool.not_eq_true', Bool.not_eq_false', ne_eq, Decidable.not_not] at c0
    refine W_seq ?_
    refine W_cut [] ((bf, .cells 130 90 (vaRow (V.set dn (othr V x)))) :: H) ?_ ?_
    · skip
      refine W_any (by kernel_rfl) ?_
      refine WA_take 0 (l' := #[true, false, false, false, false, false, false, false]) rfl (by decide +kernel) (by decide +kernel) (by decide +kernel) (fun _ h => by cases h) (fun _ h => by cases h) (by decide +kernel) (X_move rfl) rfl ?_
      refine WA_take 1 (l' := #[true, true, false, false, false, false, false, false]) rfl (by decide +kernel) (by decide +kernel) (by decide +kernel) (fun _ h => by cases h) (fun _ h => by cases h) (by decide +kernel) (X_fieldAddr rfl fld44_1 (by decide)) rfl ?_
      refine WA_take 4 (l' := #[true, true, false, false, true, false, false, false]) rfl (by decide +kernel) (by decide +kernel) (by decide +kernel) (fun _ h => by cases h) (fun _ h => by cases h) (by decide +kernel) (X_nilCheck rfl) rfl ?_
      refine WA_take 5 (l' := #[true, true, false, false, true, true, false, false]) rfl (by decide +kernel) (by decide +kernel) (by decide +kernel) (fun _ h => by cases h) (fun _ h => by cases h) (by decide +kernel) (X_fieldAddr rfl fld130_0 (by decide)) rfl ?_
      refine WA_two 2 3 (l' := #[true, true, true, false, true, true, false, false]) (l'' := #[true, true, false, true, true, true, false, false]) (by decide +kernel) rfl rfl (by decide +kernel) (by decide +kernel) ?_ ?_
      · skip
        refine W_load rfl ty3 rfl (Cell.own (by repeat (first | exact List.mem_cons_self | apply List.mem_cons_of_mem | apply List.mem_append_right)) rfl) rfl ?_
        refine W_nil ?_
        refine WA_goal ?_
        refine WA_one 3 (l' := #[true, true, true, true, true, true, false, false]) (by decide +kernel) rfl (by decide +kernel) (fun _ h => by cases h) ?_
        refine W_loadB (vs := vaC (othr V x)) rfl ty50 rfl (by repeat (first | exact List.mem_cons_self | apply List.mem_cons_of_mem | apply List.mem_append_right)) rfl rfl rfl ?_
        refine W_nil ?_
        refine WA_goal ?_
        refine WA_take 6 (l' := #[true, true, true, true, true, true, true, false]) rfl (by decide +kernel) (by decide +kernel) (by decide +kernel) (fun _ h => by cases h) (fun _ h => by cases h) (by decide +kernel) (X_indexAddrA (j := dn) rfl rfl ty127 ty50 (by assumption) (by omega) rfl) rfl ?_
        refine WA_one 7 (l' := #[true, true, true, true, true, true, true, true]) (by decide +kernel) rfl (by decide +kernel) (fun _ h => by cases h) ?_
        refine W_storeA rfl rfl ty50 rfl rfl (b := bf) (by repeat (first | exact List.mem_cons_self | apply List.mem_cons_of_mem | apply List.mem_append_right)) (by rw [vaRow_len]; exact (by omega : 0 + 0 + dn * 5 + 5 ≤ V.length * 5)) ((congrArg (fun z => spliceL (vaRow V) z (vaC (othr V x))) (Nat.zero_add (dn * 5))).trans (va_set (othr V x) (by omega))) (by repeat (first | exact Upd.head _ | apply Upd.tail | apply Upd.app)) ?_
        refine W_nil ?_
        refine WA_goal ?_
        refine WA_done (by decide +kernel) ?_
        refine W_joined (sub_nil _) (by repeat (first | with_reducible exact HSub.refl _ | refine HSub.cons (by repeat (first | exact Take.here _ | apply Take.next | apply Take.app)) ?_ | refine HSub.app (by repeat (first | with_reducible exact TakeS.here _ | apply TakeS.next | apply TakeS.app)) ?_ | exact HSub.nil _ | exact HSub.refl _ | refine HSub.drop ?_ | refine HSub.dropS ?_))
      · skip
        refine W_loadB (vs := vaC (othr V x)) rfl ty50 rfl (by repeat (first | exact List.mem_cons_self | apply List.mem_cons_of_mem | apply List.mem_append_right)) rfl rfl rfl ?_
        refine W_nil ?_
        refine WA_goal ?_
        refine WA_one 2 (l' := #[true, true, true, true, true, true, false, false]) (by decide +kernel) rfl (by decide +kernel) (fun _ h => by cases h) ?_
        refine W_load rfl ty3 rfl (Cell.own (by repeat (first | exact List.mem_cons_self | apply List.mem_cons_of_mem | apply List.mem_append_right)) rfl) rfl ?_
        refine W_nil ?_
        refine WA_goal ?_
        refine WA_take 6 (l' := #[true, true, true, true, true, true, true, false]) rfl (by decide +kernel) (by decide +kernel) (by decide +kernel) (fun _ h => by cases h) (fun _ h => by cases h) (by decide +kernel) (X_indexAddrA (j := dn) rfl rfl ty127 ty50 (by assumption) (by omega) rfl) rfl ?_
        refine WA_one 7 (l' := #[true, true, true, true, true, true, true, true]) (by decide +kernel) rfl (by decide +kernel) (fun _ h => by cases h) ?_
        refine W_storeA rfl rfl ty50 rfl rfl (b := bf) (by repeat (first | exact List.mem_cons_self | apply List.mem_cons_of_mem | apply List.mem_append_right)) (by rw [vaRow_len]; exact (by omega : 0 + 0 + dn * 5 + 5 ≤ V.length * 5)) ((congrArg (fun z => spliceL (vaRow V) z (vaC (othr V x))) (Nat.zero_add (dn * 5))).trans (va_set (othr V x) (by omega))) (by repeat (first | exact Upd.head _ | apply Upd.tail | apply Upd.app)) ?_
        refine W_nil ?_
        refine WA_goal ?_
        refine WA_done (by decide +kernel) ?_
        refine W_joined (sub_nil _) (by repeat (first | with_reducible exact HSub.refl _ | refine HSub.cons (by repeat (first | exact Take.here _ | apply Take.next | apply Take.app)) ?_ | refine HSub.app (by repeat (first | with_reducible exact TakeS.here _ | apply TakeS.next | apply TakeS.app)) ?_ | exact HSub.nil _ | exact HSub.refl _ | refine HSub.drop ?_ | refine HSub.dropS ?_))
    refine W_sr ?_
    refine W_assign rfl rfl ?_
    refine W_nil ?_
    refine W_ret1m (H2 := (bf, .cells 130 90 (vaRow (V.set dn (othr V x)))) :: H) Tryd.results67 rfl (.nil _) (by repeat (first | with_reducible exact HSub.refl _ | refine HSub.cons (by repeat (first | exact Take.here _ | apply Take.next | apply Take.app)) ?_ | refine HSub.app (by repeat (first | with_reducible exact TakeS.here _ | apply TakeS.next | apply TakeS.app)) ?_ | exact HSub.nil _ | exact HSub.refl _ | refine HSub.drop ?_ | refine HSub.dropS ?_)) ?_
    unfold sumV
    rw [if_pos c0, hdT]
    exact ⟨rfl, rfl⟩
  · simp only [cond_true, cond_false, Bool.and_eq_true, Bool.or_eq_true, Bool.and_eq_false_iff, Bool.or_eq_false_iff, decide_eq_true_eq, decide_eq_false_iff_not, Bool.not_eq_true', Bool.not_eq_false', ne_eq, Decidable.not_not] at c0
    refine W_sr ?_
    refine W_fieldAddr rfl fld50_0 (by decide) rfl ?_
    refine W_load rfl ty4 rfl (Cell.own (by repeat (first | exact List.mem_cons_self | apply List.mem_cons_of_mem | apply List.mem_append_right)) rfl) rfl ?_
    refine W_move rfl rfl ?_
    apply W_or
    iterate 4 exact rfl
    case h1 =>
      intro hg2
      refine W_gyes rfl rfl ?_
      refine W_fieldAddr rfl fld50_0 (by decide) rfl ?_
      refine W_gyes rfl rfl ?_
      refine W_load rfl ty4 rfl (Cell.own (by repeat (first | exact List.mem_cons_self | apply List.mem_cons_of_mem | apply List.mem_append_right)) rfl) rfl ?_
      exact W_met rfl (by repeat (first | exact .refl | refine .cons rfl ?_))
    refine W_assign rfl rfl ?_
    refine W_nil ?_
    refine W_condS rfl (fun c1 => ?_) (fun c1 => ?_)
    · simp only [cond_true, cond_false, Bool.and_eq_true, Bool.or_eq_true, Bool.and_eq_false_iff, Bool.or_eq_false_iff, decide_eq_true_eq, decide_eq_false_iff_not, Bool.not_eq_true', Bool.not_eq_false', ne_eq, Decidable.not_not] at c1
      refine W_sr ?_
      refine W_assign rfl rfl ?_
      refine W_nil ?_
      refine W_ret1m (H2 := (bf, .cells 130 90 (vaRow V)) :: H) Tryd.results67 rfl (.nil _) (by repeat (first | with_reducible exact HSub.refl _ | refine HSub.cons (by repeat (first | exact Take.here _ | apply Take.next | apply Take.app)) ?_ | refine HSub.app (by repeat (first | with_reducible exact TakeS.here _ | apply TakeS.next | apply TakeS.app)) ?_ | exact HSub.nil _ | exact HSub.refl _ | refine HSub.drop ?_ | refine HSub.dropS ?_)) ?_
      unfold sumV
      rw [if_neg (by omega), if_pos c1]
      exact ⟨rfl, rfl⟩
    · simp only [cond_true, cond_false, Bool.and_eq_true, Bool.or_eq_true, Bool.and_eq_false_iff, Bool.or_eq_false_iff, decide_eq_true_eq, decide_eq_false_iff_not, Bool.not_eq_true', Bool.not_eq_false', ne_eq, Decidable.not_not] at c1
      refine W_skip ?_
      refine W_blk ?_
      refine W_sr ?_
      refine W_fieldAddr rfl fld44_0 (by decide) rfl ?_
      refine W_load rfl ty3 rfl (Cell.own (by repeat (first | exact List.mem_cons_self | apply List.mem_cons_of_mem | apply List.mem_append_right)) rfl) rfl ?_
      refine W_fieldAddr rfl fld50_3 (by decide) rfl ?_
      refine W_load rfl ty22 rfl (Cell.own (by repeat (first | exact List.mem_cons_self | apply List.mem_cons_of_mem | apply List.mem_append_right)) rfl) rfl ?_
      refine W_fieldAddr rfl fld50_3 (by decide) rfl ?_
      refine W_load rfl ty22 rfl (Cell.own (by repeat (first | exact List.mem_cons_self | apply List.mem_cons_of_mem | apply List.mem_append_right)) rfl) rfl ?_
      refine W_callp (.cons rfl (.cons rfl (.cons rfl .nil))) Tryd.call96 rfl hT (v := .tuple #[U (doS (plainOf x.op) (V.getD x.dst.toNat zeroV).n (othr V x).n), .int .i64 0]) (by have h := do_pure x.op (V.getD x.dst.toNat zeroV).n (othr V x).n hop.1 hop.2 hn; unfold doR at h; rw [if_pos hc] at h; exact h) ?_
      refine W_move rfl rfl ?_
      refine W_extract rfl rfl rfl ?_
      refine W_extract rfl rfl rfl ?_
      refine W_assign rfl rfl ?_
      refine W_assign rfl rfl ?_
      refine W_nil ?_
      refine W_seq ?_
      refine W_sr ?_
      refine W_move rfl rfl ?_
      refine W_bin rfl rfl b_eql rfl ?_
      refine W_nil ?_
      refine W_condT rfl rfl ?_
      refine W_cut [(8, .int .i64 0)] ((bf, .cells 130 90 (vaRow (V.set dn ⟨false, 0, 0, 0, doS (plainOf x.op) (V.getD x.dst.toNat zeroV).n (othr V x).n⟩))) :: H) ?_ ?_
      · skip
        refine W_any (by kernel_rfl) ?_
        refine WA_take 0 (l' := #[true, false, false, false, false, false, false, false, false]) rfl (by decide +kernel) (by decide +kernel) (by decide +kernel) (fun _ h => by cases h) (fun _ h => by cases h) (by decide +kernel) (X_move rfl) rfl ?_
        refine WA_take 1 (l' := #[true, true, false, false, false, false, false, false, false]) rfl (by decide +kernel) (by decide +kernel) (by decide +kernel) (fun _ h => by cases h) (fun _ h => by cases h) (by decide +kernel) (X_fieldAddr rfl fld44_1 (by decide)) rfl ?_
        refine WA_take 3 (l' := #[true, true, false, true, false, false, false, false, false]) rfl (by decide +kernel) (by decide +kernel) (by decide +kernel) (fun _ h => by cases h) (fun _ h => by cases h) (by decide +kernel) (X_move rfl) rfl ?_
        refine WA_take 5 (l' := #[true, true, false, true, false, true, false, false, false]) rfl (by decide +kernel) (by decide +kernel) (by decide +kernel) (fun _ h => by cases h) (fun _ h => by cases h) (by decide +kernel) (X_nilCheck rfl) rfl ?_
        refine WA_take 6 (l' := #[true, true, false, true, false, true, true, false, false]) rfl (by decide +kernel) (by decide +kernel) (by decide +kernel) (fun _ h => by cases h) (fun _ h => by cases h) (by decide +kernel) (X_fieldAddr rfl fld130_0 (by decide)) rfl ?_
        refine WA_two 2 4 (l' := #[true, true, true, true, false, true, true, false, false]) (l'' := #[true, true, false, true, true, true, true, false, false]) (by decide +kernel) rfl rfl (by decide +kernel) (by decide +kernel) ?_ ?_
        · skip
          refine W_load rfl ty3 rfl (Cell.own (by repeat (first | exact List.mem_cons_self | apply List.mem_cons_of_mem | apply List.mem_append_right)) rfl) rfl ?_
          refine W_nil ?_
          refine WA_goal ?_
          refine WA_one 4 (l' := #[true, true, true, true, true, true, true, false, false]) (by decide +kernel) rfl (by decide +kernel) (fun _ h => by cases h) ?_
          refine W_callp (.cons rfl .nil) Tryd.call27 rfl (T := fun _ => True) trivial (Num_pure _) ?_
          refine W_nil ?_
          refine WA_goal ?_
          refine WA_take 7 (l' := #[true, true, true, true, true, true, true, true, false]) rfl (by decide +kernel) (by decide +kernel) (by decide +kernel) (fun _ h => by cases h) (fun _ h => by cases h) (by decide +kernel) (X_indexAddrA (j := dn) rfl rfl ty127 ty50 (by assumption) (by omega) rfl) rfl ?_
          refine WA_one 8 (l' := #[true, true, true, true, true, true, true, true, true]) (by decide +kernel) rfl (by decide +kernel) (fun _ h => by cases h) ?_
          refine W_storeA rfl rfl ty50 rfl rfl (b := bf) (by repeat (first | exact List.mem_cons_self | apply List.mem_cons_of_mem | apply List.mem_append_right)) (by rw [vaRow_len]; exact (by omega : 0 + 0 + dn * 5 + 5 ≤ V.length * 5)) ((congrArg (fun z => spliceL (vaRow V) z (vaC ⟨false, 0, 0, 0, doS (plainOf x.op) (V.getD x.dst.toNat zeroV).n (othr V x).n⟩)) (Nat.zero_add (dn * 5))).trans (va_set ⟨false, 0, 0, 0, doS (plainOf x.op) (V.getD x.dst.toNat zeroV).n (othr V x).n⟩ (by omega))) (by repeat (first | exact Upd.head _ | apply Upd.tail | apply Upd.app)) ?_
          refine W_nil ?_
          refine WA_goal ?_
          refine WA_done (by decide +kernel) ?_
          refine W_joined (sub_cons rfl (sub_nil _)) (by repeat (first | with_reducible exact HSub.refl _ | refine HSub.cons (by repeat (first | exact Take.here _ | apply Take.next | apply Take.app)) ?_ | refine HSub.app (by repeat (first | with_reducible exact TakeS.here _ | apply TakeS.next | apply TakeS.app)) ?_ | exact HSub.nil _ | exact HSub.refl _ | refine HSub.drop ?_ | refine HSub.dropS ?_))
        · skip
          refine W_callp (.cons rfl .nil) Tryd.call27 rfl (T := fun _ => True) trivial (Num_pure _) ?_
          refine W_nil ?_
          refine WA_goal ?_
          refine WA_one 2 (l' := #[true, true, true, true, true, true, true, false, false]) (by decide +kernel) rfl (by decide +kernel) (fun _ h => by cases h) ?_
          refine W_load rfl ty3 rfl (Cell.own (by repeat (first | exact List.mem_cons_self | apply List.mem_cons_of_mem | apply List.mem_append_right)) rfl) rfl ?_
          refine W_nil ?_
          refine WA_goal ?_
          refine WA_take 7 (l' := #[true, true, true, true, true, true, true, true, false]) rfl (by decide +kernel) (by decide +kernel) (by decide +kernel) (fun _ h => by cases h) (fun _ h => by cases h) (by decide +kernel) (X_indexAddrA (j := dn) rfl rfl ty127 ty50 (by assumption) (by omega) rfl) rfl ?_
          refine WA_one 8 (l' := #[true, true, true, true, true, true, true, true, true]) (by decide +kernel) rfl (by decide +kernel) (fun _ h => by cases h) ?_
          refine W_storeA rfl rfl ty50 rfl rfl (b := bf) (by repeat (first | exact List.mem_cons_self | apply List.mem_cons_of_mem | apply List.mem_append_right)) (by rw [vaRow_len]; exact (by omega : 0 + 0 + dn * 5 + 5 ≤ V.length * 5)) ((congrArg (fun z => spliceL (vaRow V) z (vaC ⟨false, 0, 0, 0, doS (plainOf x.op) (V.getD x.dst.toNat zeroV).n (othr V x).n⟩)) (Nat.zero_add (dn * 5))).trans (va_set ⟨false, 0, 0, 0, doS (plainOf x.op) (V.getD x.dst.toNat zeroV).n (othr V x).n⟩ (by omega))) (by repeat (first | exact Upd.head _ | apply Upd.tail | apply Upd.app)) ?_
          refine W_nil ?_
          refine WA_goal ?_
          refine WA_done (by decide +kernel) ?_
          refine W_joined (sub_cons rfl (sub_nil _)) (by repeat (first | with_reducible exact HSub.refl _ | refine HSub.cons (by repeat (first | exact Take.here _ | apply Take.next | apply Take.app)) ?_ | refine HSub.app (by repeat (first | with_reducible exact TakeS.here _ | apply TakeS.next | apply TakeS.app)) ?_ | exact HSub.nil _ | exact HSub.refl _ | refine HSub.drop ?_ | refine HSub.dropS ?_))
      refine W_sr ?_
      refine W_move rfl rfl ?_
      refine W_assign rfl rfl ?_
      refine W_nil ?_
      refine W_ret1m (H2 := (bf, .cells 130 90 (vaRow (V.set dn ⟨false, 0, 0, 0, doS (plainOf x.op) (V.getD x.dst.toNat zeroV).n (othr V x).n⟩))) :: H) Tryd.results67 rfl (.nil _) (by repeat (first | with_reducible exact HSub.refl _ | refine HSub.cons (by repeat (first | exact Take.here _ | apply Take.next | apply Take.app)) ?_ | refine HSub.app (by repeat (first | with_reducible exact TakeS.here _ | apply TakeS.next | apply TakeS.app)) ?_ | exact HSub.nil _ | exact HSub.refl _ | refine HSub.drop ?_ | refine HSub.dropS ?_)) ?_
      unfold sumV
      rw [if_neg (by omega), if_neg (by intro h; rcases h with h | h <;> simp_all), hdT]
      exact ⟨rfl, rfl⟩
end Go.Proofs.YtkhkagjbeilbgaaDoor
