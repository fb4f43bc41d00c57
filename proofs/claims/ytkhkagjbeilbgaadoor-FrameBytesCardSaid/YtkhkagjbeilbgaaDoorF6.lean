/-
  Own work: contracts of functions that the statement reaches, and plain facts on what they compute; each theorem says its conditions.
-/
import Derived.Test.YtkhkagjbeilbgaaDoorF5
set_option linter.all false
set_option linter.unusedSimpArgs false
set_option linter.unusedVariables false
namespace Go.Proofs.YtkhkagjbeilbgaaDoor
open Go Go.Sl
attribute [local irreducible] W

theorem chk_in {x : Ins} (h : isaChk x = 0) : cls x.op ≠ 0 ∧ (0 ≤ x.dst ∧ x.dst < 10) ∧ (0 ≤ x.src ∧ x.src < 10) := by
  unfold isaChk at h
  by_cases h0 : cls x.op = 0
  · rw [if_pos h0] at h; omega
  rw [if_neg h0] at h
  by_cases h1 : (outB x.dst 0 10 || outB x.src 0 10 || outB x.off (-32768) 32768 || outB x.imm (-2147483648) 2147483648) = true
  · rw [if_pos h1] at h; omega
  simp only [outB, Bool.or_eq_true, decide_eq_true_eq] at h1
  exact ⟨h0, by omega, by omega⟩
theorem getD_n {V : List Va} (hW : ∀ v ∈ V, 0 ≤ v.n) (i : Nat) : 0 ≤ (V.getD i zeroV).n := by
  rw [List.getD_eq_getElem?_getD]
  cases h : V[i]? with
  | none => exact Int.le_refl 0
  | some v => exact hW v (List.mem_of_getElem? h)
theorem othr_n {V : List Va} {x : Ins} (hW : ∀ v ∈ V, 0 ≤ v.n) : 0 ≤ (othr V x).n := by
  unfold othr
  split
  · exact getD_n hW _
  · show 0 ≤ IntKind.u64.wrap x.imm
    simp [IntKind.wrap, IntKind.signed, IntKind.bits, IntKind.max]; omega
/-- what an instruction does -/
def doV (V : List Va) (x : Ins) : List Va × Int :=
  if isaChk x ≠ 0 then (V, isaChk x)
  else if cls x.op = 1 then sumV V x
  else if x.op = 64 then (if (rdV V true x.off).2 = 0 then V.set x.dst.toNat (rdV V true x.off).1 else V, (rdV V true x.off).2)
  else if x.op = 65 then wrV V true x.off (V.getD x.src.toNat zeroV)
  else (V, 11)
set_option maxHeartbeats 1000000 in
theorem Do_L {w0 : World} {H : Heap} {bf : Nat} {V : List Va} {x : Ins} (hV : V.length = 18) (hop : -9223372036854775808 ≤ x.op ∧ x.op ≤ 9223372036854775807) (hW : ∀ v ∈ V, 0 ≤ v.n) (hT : Tab w0) : LCalls Tryd.prog w0 21 #[.pointer (some ⟨bf, 0, none⟩), .agg #[.int .i64 x.op, .int .i64 x.dst, .int .i64 x.src, .int .i64 x.off, .int .i64 x.imm]] ((bf, .cells 130 90 (vaRow V)) :: H) (fun v H' => v = .int .i64 (doV V x).2 ∧ H' = (bf, .cells 130 90 (vaRow (doV V x).1)) :: H) := by
  have hR : isaChk x = 0 → ∃ dn sn : Nat, x.dst = (dn : Int) ∧ x.src = (sn : Int) ∧ x.dst.toNat = dn ∧ x.src.toNat = sn ∧ dn < 10 ∧ sn < 10 := fun h => by
    obtain ⟨_, h1, h2⟩ := chk_in h
    exact ⟨x.dst.toNat, x.src.toNat, by omega, by omega, rfl, rfl, by omega, by omega⟩
  refine L_enter (l := [.pointer (some ⟨bf, 0, none⟩), .agg #[.int .i64 x.op, .int .i64 x.dst, .int .i64 x.src, .int .i64 x.off, .int .i64 x.imm]]) Tryd.func21 rfl Tryd.ntmps21 rfl rfl ?_
  refine W_sr ?_
  refine W_box rfl rfl rfl (fun b3 => ?_)
  refine W_assign rfl rfl ?_
  refine W_nil ?_
  refine W_seq ?_
  refine W_sr ?_
  refine W_move rfl rfl ?_
  refine W_x (X_ptrNil rfl rfl ty37) (fun _ h => by cases h) rfl ?_
  refine W_nil ?_
  refine W_condF rfl rfl ?_
  refine W_skip ?_
  refine W_seq ?_
  refine W_sr ?_
  refine W_loadB rfl ty44 rfl (by repeat (first | exact List.mem_cons_self | apply List.mem_cons_of_mem | apply List.mem_append_right)) rfl (by simp only [fillL, spliceL, Value.cells, List.take_zero, List.take_succ_cons, List.take_nil, List.drop_zero, List.drop_succ_cons, List.drop_nil, List.nil_append, List.cons_append, List.append_nil, List.length_cons, List.length_nil, Nat.zero_add, Nat.reduceAdd, List.toList_toArray]; rfl) rfl ?_
  refine W_callp (.cons rfl .nil) Tryd.call65 rfl hT (isaChk_pure _) ?_
  refine W_assign rfl rfl ?_
  refine W_nil ?_
  refine W_sr ?_
  refine W_move rfl rfl ?_
  refine W_bin rfl rfl b_neq rfl ?_
  refine W_nil ?_
  refine W_condS rfl (fun c0 => ?_) (fun c0 => ?_)
  · simp only [cond_true, cond_false, Bool.and_eq_true, Bool.or_eq_true, Bool.and_eq_false_iff, Bool.or_eq_false_iff, decide_eq_true_eq, decide_eq_false_iff_not, Bool.not_eq_true', Bool.not_eq_false', ne_eq, Decidable.not_not] at c0
    refine W_sr ?_
    refine W_move rfl rfl ?_
    refine W_assign rfl rfl ?_
    refine W_nil ?_
    refine W_ret1m (H2 := (bf, .cells 130 90 (vaRow V)) :: H) Tryd.results21 rfl (.nil _) (by repeat (first | with_reducible exact HSub.refl _ | refine HSub.cons (by repeat (first | exact Take.here _ | apply Take.next | apply Take.app)) ?_ | refine HSub.app (by repeat (first | with_reducible exact TakeS.here _ | apply TakeS.next | apply TakeS.app)) ?_ | exact HSub.nil _ | exact HSub.refl _ | refine HSub.drop ?_ | refine HSub.dropS ?_)) ?_
    unfold doV
    rw [if_pos c0]
    exact ⟨rfl, rfl⟩
  · simp only [cond_true, cond_false, Bool.and_eq_true, Bool.or_eq_true, Bool.and_eq_false_iff, Bool.or_eq_false_iff, decide_eq_true_eq, decide_eq_false_iff_not, Bool.not_eq_true', Bool.not_eq_false', ne_eq, Decidable.not_not] at c0
    refine W_skip ?_
    refine W_seq ?_
    refine W_block ?_
    refine W_sr ?_
    refine W_fieldAddr rfl fld44_0 (by decide) rfl ?_
    refine W_load rfl ty3 rfl (Cell.own (by repeat (first | exact List.mem_cons_self | apply List.mem_cons_of_mem | apply List.mem_append_right)) rfl) rfl ?_
    refine W_callp (.cons rfl .nil) Tryd.call66 rfl hT (class_pure _) ?_
    refine W_bin rfl rfl b_eql rfl ?_
    refine W_assign rfl rfl ?_
    refine W_nil ?_
    refine W_condS rfl (fun c1 => ?_) (fun c1 => ?_)
    · simp only [cond_true, cond_false, Bool.and_eq_true, Bool.or_eq_true, Bool.and_eq_false_iff, Bool.or_eq_false_iff, decide_eq_true_eq, decide_eq_false_iff_not, Bool.not_eq_true', Bool.not_eq_false', ne_eq, Decidable.not_not] at c1
      refine W_sr ?_
      refine W_move rfl rfl ?_
      refine W_loadB rfl ty44 rfl (by repeat (first | exact List.mem_cons_self | apply List.mem_cons_of_mem | apply List.mem_append_right)) rfl (by simp only [fillL, spliceL, Value.cells, List.take_zero, List.take_succ_cons, List.take_nil, List.drop_zero, List.drop_succ_cons, List.drop_nil, List.nil_append, List.cons_append, List.append_nil, List.length_cons, List.length_nil, Nat.zero_add, Nat.reduceAdd, List.toList_toArray]; rfl) rfl ?_
      refine W_call (.cons rfl (.cons rfl .nil)) Tryd.call67 rfl ((sum_L (H := (b3, .cells 44 5 [.int .i64 x.op, .int .i64 x.dst, .int .i64 x.src, .int .i64 x.off, .int .i64 x.imm]) :: H) hV c1 hop (othr_n hW) (chk_in (by simpa using c0)).2.1 (chk_in (by simpa using c0)).2.2 hT).hsub (by repeat (first | with_reducible exact HSub.refl _ | refine HSub.cons (by repeat (first | exact Take.here _ | apply Take.next | apply Take.app)) ?_ | refine HSub.app (by repeat (first | with_reducible exact TakeS.here _ | apply TakeS.next | apply TakeS.app)) ?_ | exact HSub.nil _ | exact HSub.refl _ | refine HSub.drop ?_ | refine HSub.dropS ?_))) ?_
      rintro v H' ⟨rfl, rfl⟩
      refine W_assign rfl rfl ?_
      refine W_nil ?_
      refine W_ret1m (H2 := (bf, .cells 130 90 (vaRow (sumV V x).1)) :: H) Tryd.results21 rfl (.nil _) (by repeat (first | with_reducible exact HSub.refl _ | refine HSub.cons (by repeat (first | exact Take.here _ | apply Take.next | apply Take.app)) ?_ | refine HSub.app (by repeat (first | with_reducible exact TakeS.here _ | apply TakeS.next | apply TakeS.app)) ?_ | exact HSub.nil _ | exact HSub.refl _ | refine HSub.drop ?_ | refine HSub.dropS ?_)) ?_
      unfold doV
      rw [if_neg (fun h => h c0), if_pos c1]
      exact ⟨rfl, rfl⟩
    · simp only [cond_true, cond_false, Bool.and_eq_true, Bool.or_eq_true, Bool.and_eq_false_iff, Bool.or_eq_false_iff, decide_eq_true_eq, decide_eq_false_iff_not, Bool.not_eq_true', Bool.not_eq_false', ne_eq, Decidable.not_not] at c1
      refine W_sr ?_
      refine W_fieldAddr rfl fld44_0 (by decide) rfl ?_
      refine W_load rfl ty3 rfl (Cell.own (by repeat (first | exact List.mem_cons_self | apply List.mem_cons_of_mem | apply List.mem_append_right)) rfl) rfl ?_
      refine W_bin rfl rfl b_eql rfl ?_
      refine W_assign rfl rfl ?_
      refine W_nil ?_
      refine W_condS rfl (fun c2 => ?_) (fun c2 => ?_)
      · simp only [cond_true, cond_false, Bool.and_eq_true, Bool.or_eq_true, Bool.and_eq_false_iff, Bool.or_eq_false_iff, decide_eq_true_eq, decide_eq_false_iff_not, Bool.not_eq_true', Bool.not_eq_false', ne_eq, Decidable.not_not] at c2
        refine W_sr ?_
        refine W_move rfl rfl ?_
        refine W_fieldAddr rfl fld44_3 (by decide) rfl ?_
        refine W_load rfl ty3 rfl (Cell.own (by repeat (first | exact List.mem_cons_self | apply List.mem_cons_of_mem | apply List.mem_append_right)) rfl) rfl ?_
        refine W_call (.cons rfl (.cons rfl .nil)) Tryd.call24 rfl ((Word_L (H := (b3, .cells 44 5 [.int .i64 x.op, .int .i64 x.dst, .int .i64 x.src, .int .i64 x.off, .int .i64 x.imm]) :: H) (at_ := x.off) hV).hsub (by repeat (first | with_reducible exact HSub.refl _ | refine HSub.cons (by repeat (first | exact Take.here _ | apply Take.next | apply Take.app)) ?_ | refine HSub.app (by repeat (first | with_reducible exact TakeS.here _ | apply TakeS.next | apply TakeS.app)) ?_ | exact HSub.nil _ | exact HSub.refl _ | refine HSub.drop ?_ | refine HSub.dropS ?_))) ?_
        rintro v H' ⟨rfl, rfl⟩
        refine W_move rfl rfl ?_
        refine W_extract rfl rfl rfl ?_
        refine W_extract rfl rfl rfl ?_
        refine W_alloc ty50 rfl rfl (fun b6 => ?_)
        refine W_storeA rfl rfl ty50 rfl rfl (b := b6) (by repeat (first | exact List.mem_cons_self | apply List.mem_cons_of_mem | apply List.mem_append_right)) (by decide) rfl (by repeat (first | exact Upd.head _ | apply Upd.tail | apply Upd.app)) ?_
        refine W_assign rfl rfl ?_
        refine W_nil ?_
        refine W_seq ?_
        refine W_sr ?_
        refine W_move rfl rfl ?_
        refine W_bin rfl rfl b_eql rfl ?_
        refine W_nil ?_
        refine W_condS rfl (fun c3 => ?_) (fun c3 => ?_)
        · simp only [cond_true, cond_false, Bool.and_eq_true, Bool.or_eq_true, Bool.and_eq_false_iff, Bool.or_eq_false_iff, decide_eq_true_eq, decide_eq_false_iff_not, Bool.not_eq_true', Bool.not_eq_false', ne_eq, Decidable.not_not] at c3
          obtain ⟨dn, sn, hdn, hsn, hdT, hsT, hdl, hsl⟩ := hR (by simpa using c0)
          refine W_cut [(7, .int .i64 (rdV V true x.off).2)] ((bf, .cells 130 90 (vaRow (V.set dn (rdV V true x.off).1))) :: H) ?_ ?_
          · skip
            refine W_any (by kernel_rfl) ?_
            refine WA_take 0 (l' := #[true, false, false, false, false, false, false, false]) rfl (by decide +kernel) (by decide +kernel) (by decide +kernel) (fun _ h => by cases h) (fun _ h => by cases h) (by decide +kernel) (X_move rfl) rfl ?_
            refine WA_take 1 (l' := #[true, true, false, false, false, false, false, false]) rfl (by decide +kernel) (by decide +kernel) (by decide +kernel) (fun _ h => by cases h) (fun _ h => by cases h) (by decide +kernel) (X_fieldAddr rfl fld44_1 (by decide)) rfl ?_
            refine WA_take 4 (l' := #[true, true, false, false, true, false, false, false]) rfl (by decide +kernel) (by decide +kernel) (by decide +kernel) (fun _ h => by cases h) (fun _ h => by cases h) (by decide +kernel) (X_nilCheck rfl) rfl ?_
            refine WA_take 5 (l' := #[true, true, false, false, true, true, false, false]) rfl (by decide +kernel) (by decide +kernel) (by decide +kernel) (fun _ h => by cases h) (fun _ h => by cases h) (by decide +kernel) (X_fieldAddr rfl fld130_0 (by decide)) rfl ?_
            refine WA_two 2 3 (l' := #[true, true, true, false, true, true, false, false]) (l'' := #[true, true, false, true, true, true, false, false]) (by decide +kernel) rfl rfl (by decide +kernel) (by decide +kernel) ?_ ?_
            · skip
              refine W_load rfl ty3 rfl (Cell.own (by repeat (first | exact List.mem_cons_self | apply List.mem_cons_of_mem | apply List.mem_append_right)) rfl) rfl ?_
              refine W_nil ?_
              refine WA_goal ?_
              refine WA_one 3 (l' := #[true, true, true, true, true, true, false, false]) (by decide +kernel) rfl (by decide +kernel) (fun _ h => by cases h) ?_
              refine W_loadB (vs := vaC (rdV V true x.off).1) rfl ty50 rfl (by repeat (first | exact List.mem_cons_self | apply List.mem_cons_of_mem | apply List.mem_append_right)) rfl rfl rfl ?_
              refine W_nil ?_
              refine WA_goal ?_
              refine WA_take 6 (l' := #[true, true, true, true, true, true, true, false]) rfl (by decide +kernel) (by decide +kernel) (by decide +kernel) (fun _ h => by cases h) (fun _ h => by cases h) (by decide +kernel) (X_indexAddrA (j := dn) rfl rfl ty127 ty50 (by assumption) (by omega) rfl) rfl ?_
              refine WA_one 7 (l' := #[true, true, true, true, true, true, true, true]) (by decide +kernel) rfl (by decide +kernel) (fun _ h => by cases h) ?_
              refine W_storeA rfl rfl ty50 rfl rfl (b := bf) (by repeat (first | exact List.mem_cons_self | apply List.mem_cons_of_mem | apply List.mem_append_right)) (by rw [vaRow_len]; exact (by omega : 0 + 0 + dn * 5 + 5 ≤ V.length * 5)) ((congrArg (fun z => spliceL (vaRow V) z (vaC (rdV V true x.off).1)) (Nat.zero_add (dn * 5))).trans (va_set (rdV V true x.off).1 (by omega))) (by repeat (first | exact Upd.head _ | apply Upd.tail | apply Upd.app)) ?_
              refine W_nil ?_
              refine WA_goal ?_
              refine WA_done (by decide +kernel) ?_
              refine W_joined (sub_cons rfl (sub_nil _)) (by repeat (first | with_reducible exact HSub.refl _ | refine HSub.cons (by repeat (first | exact Take.here _ | apply Take.next | apply Take.app)) ?_ | refine HSub.app (by repeat (first | with_reducible exact TakeS.here _ | apply TakeS.next | apply TakeS.app)) ?_ | exact HSub.nil _ | exact HSub.refl _ | refine HSub.drop ?_ | refine HSub.dropS ?_))
            · skip
              refine W_loadB (vs := vaC (rdV V true x.off).1) rfl ty50 rfl (by repeat (first | exact List.mem_cons_self | apply List.mem_cons_of_mem | apply List.mem_append_right)) rfl rfl rfl ?_
              refine W_nil ?_
              refine WA_goal ?_
              refine WA_one 2 (l' := #[true, true, true, true, true, true, false, false]) (by decide +kernel) rfl (by decide +kernel) (fun _ h => by cases h) ?_
              refine W_load rfl ty3 rfl (Cell.own (by repeat (first | exact List.mem_cons_self | apply List.mem_cons_of_mem | apply List.mem_append_right)) rfl) rfl ?_
              refine W_nil ?_
              refine WA_goal ?_
              refine WA_take 6 (l' := #[true, true, true, true, true, true, true, false]) rfl (by decide +kernel) (by decide +kernel) (by decide +kernel) (fun _ h => by cases h) (fun _ h => by cases h) (by decide +kernel) (X_indexAddrA (j := dn) rfl rfl ty127 ty50 (by assumption) (by omega) rfl) rfl ?_
              refine WA_one 7 (l' := #[true, true, true, true, true, true, true, true]) (by decide +kernel) rfl (by decide +kernel) (fun _ h => by cases h) ?_
              refine W_storeA rfl rfl ty50 rfl rfl (b := bf) (by repeat (first | exact List.mem_cons_self | apply List.mem_cons_of_mem | apply List.mem_append_right)) (by rw [vaRow_len]; exact (by omega : 0 + 0 + dn * 5 + 5 ≤ V.length * 5)) ((congrArg (fun z => spliceL (vaRow V) z (vaC (rdV V true x.off).1)) (Nat.zero_add (dn * 5))).trans (va_set (rdV V true x.off).1 (by omega))) (by repeat (first | exact Upd.head _ | apply Upd.tail | apply Upd.app)) ?_
              refine W_nil ?_
              refine WA_goal ?_
              refine WA_done (by decide +kernel) ?_
              refine W_joined (sub_cons rfl (sub_nil _)) (by repeat (first | with_reducible exact HSub.refl _ | refine HSub.cons (by repeat (first | exact Take.here _ | apply Take.next | apply Take.app)) ?_ | refine HSub.app (by repeat (first | with_reducible exact TakeS.here _ | apply TakeS.next | apply TakeS.app)) ?_ | exact HSub.nil _ | exact HSub.refl _ | refine HSub.drop ?_ | refine HSub.dropS ?_))
          refine W_sr ?_
          refine W_move rfl rfl ?_
          refine W_assign rfl rfl ?_
          refine W_nil ?_
          refine W_ret1m (H2 := (bf, .cells 130 90 (vaRow (V.set dn (rdV V true x.off).1))) :: H) Tryd.results21 rfl (.nil _) (by repeat (first | with_reducible exact HSub.refl _ | refine HSub.cons (by repeat (first | exact Take.here _ | apply Take.next | apply Take.app)) ?_ | refine HSub.app (by repeat (first | with_reducible exact TakeS.here _ | apply TakeS.next | apply TakeS.app)) ?_ | exact HSub.nil _ | exact HSub.refl _ | refine HSub.drop ?_ | refine HSub.dropS ?_)) ?_
          unfold doV
          rw [if_neg (fun h => h c0), if_neg c1, if_pos c2, if_pos c3, hdT]
          exact ⟨rfl, rfl⟩
        · simp only [cond_true, cond_false, Bool.and_eq_true, Bool.or_eq_true, Bool.and_eq_false_iff, Bool.or_eq_false_iff, decide_eq_true_eq, decide_eq_false_iff_not, Bool.not_eq_true', Bool.not_eq_false', ne_eq, Decidable.not_not] at c3
          refine W_skip ?_
          refine W_sr ?_
          refine W_move rfl rfl ?_
          refine W_assign rfl rfl ?_
          refine W_nil ?_
          refine W_ret1m (H2 := (bf, .cells 130 90 (vaRow V)) :: H) Tryd.results21 rfl (.nil _) (by repeat (first | with_reducible exact HSub.refl _ | refine HSub.cons (by repeat (first | exact Take.here _ | apply Take.next | apply Take.app)) ?_ | refine HSub.app (by repeat (first | with_reducible exact TakeS.here _ | apply TakeS.next | apply TakeS.app)) ?_ | exact HSub.nil _ | exact HSub.refl _ | refine HSub.drop ?_ | refine HSub.dropS ?_)) ?_
          unfold doV
          rw [if_neg (fun h => h c0), if_neg c1, if_pos c2, if_neg c3]
          exact ⟨rfl, rfl⟩
      · simp only [cond_true, cond_false, Bool.and_eq_true, Bool.or_eq_true, Bool.and_eq_false_iff, Bool.or_eq_false_iff, decide_eq_true_eq, decide_eq_false_iff_not, Bool.not_eq_true', Bool.not_eq_false', ne_eq, Decidable.not_not] at c2
        refine W_sr ?_
        refine W_fieldAddr rfl fld44_0 (by decide) rfl ?_
        refine W_load rfl ty3 rfl (Cell.own (by repeat (first | exact List.mem_cons_self | apply List.mem_cons_of_mem | apply List.mem_append_right)) rfl) rfl ?_
        refine W_bin rfl rfl b_eql rfl ?_
        refine W_assign rfl rfl ?_
        refine W_nil ?_
        refine W_condS rfl (fun c3 => ?_) (fun c3 => ?_)
        · simp only [cond_true, cond_false, Bool.and_eq_true, Bool.or_eq_true, Bool.and_eq_false_iff, Bool.or_eq_false_iff, decide_eq_true_eq, decide_eq_false_iff_not, Bool.not_eq_true', Bool.not_eq_false', ne_eq, Decidable.not_not] at c3
          refine W_seq ?_
          obtain ⟨dn, sn, hdn, hsn, hdT, hsT, hdl, hsl⟩ := hR (by simpa using c0)
          refine W_cut [(4, .int .i64 (wrV V true x.off (V.getD sn zeroV)).2)] ((bf, .cells 130 90 (vaRow (wrV V true x.off (V.getD sn zeroV)).1)) :: H) ?_ ?_
          · skip
            refine W_any (by kernel_rfl) ?_
            refine WA_take 0 (l' := #[true, false, false, false, false, false, false, false, false, false, false, false]) rfl (by decide +kernel) (by decide +kernel) (by decide +kernel) (fun _ h => by cases h) (fun _ h => by cases h) (by decide +kernel) (X_move rfl) rfl ?_
            refine WA_take 1 (l' := #[true, true, false, false, false, false, false, false, false, false, false, false]) rfl (by decide +kernel) (by decide +kernel) (by decide +kernel) (fun _ h => by cases h) (fun _ h => by cases h) (by decide +kernel) (X_fieldAddr rfl fld44_3 (by decide)) rfl ?_
            refine WA_take 3 (l' := #[true, true, false, true, false, false, false, false, false, false, false, false]) rfl (by decide +kernel) (by decide +kernel) (by decide +kernel) (fun _ h => by cases h) (fun _ h => by cases h) (by decide +kernel) (X_move rfl) rfl ?_
            refine WA_take 4 (l' := #[true, true, false, true, true, false, false, false, false, false, false, false]) rfl (by decide +kernel) (by decide +kernel) (by decide +kernel) (fun _ h => by cases h) (fun _ h => by cases h) (by decide +kernel) (X_fieldAddr rfl fld44_2 (by decide)) rfl ?_
            refine WA_take 6 (l' := #[true, true, false, true, true, false, true, false, false, false, false, false]) rfl (by decide +kernel) (by decide +kernel) (by decide +kernel) (fun _ h => by cases h) (fun _ h => by cases h) (by decide +kernel) (X_nilCheck rfl) rfl ?_
            refine WA_take 7 (l' := #[true, true, false, true, true, false, true, true, false, false, false, false]) rfl (by decide +kernel) (by decide +kernel) (by decide +kernel) (fun _ h => by cases h) (fun _ h => by cases h) (by decide +kernel) (X_fieldAddr rfl fld130_0 (by decide)) rfl ?_
            refine WA_two 2 5 (l' := #[true, true, true, true, true, false, true, true, false, false, false, false]) (l'' := #[true, true, false, true, true, true, true, true, false, false, false, false]) (by decide +kernel) rfl rfl (by decide +kernel) (by decide +kernel) ?_ ?_
            · skip
              refine W_load rfl ty3 rfl (Cell.own (by repeat (first | exact List.mem_cons_self | apply List.mem_cons_of_mem | apply List.mem_append_right)) rfl) rfl ?_
              refine W_nil ?_
              refine WA_goal ?_
              refine WA_one 5 (l' := #[true, true, true, true, true, true, true, true, false, false, false, false]) (by decide +kernel) rfl (by decide +kernel) (fun _ h => by cases h) ?_
              refine W_load rfl ty3 rfl (Cell.own (by repeat (first | exact List.mem_cons_self | apply List.mem_cons_of_mem | apply List.mem_append_right)) rfl) rfl ?_
              refine W_nil ?_
              refine WA_goal ?_
              refine WA_take 8 (l' := #[true, true, true, true, true, true, true, true, true, false, false, false]) rfl (by decide +kernel) (by decide +kernel) (by decide +kernel) (fun _ h => by cases h) (fun _ h => by cases h) (by decide +kernel) (X_indexAddrA (j := sn) rfl rfl ty127 ty50 (by assumption) (by omega) rfl) rfl ?_
              refine WA_one 9 (l' := #[true, true, true, true, true, true, true, true, true, true, false, false]) (by decide +kernel) rfl (by decide +kernel) (fun _ h => by cases h) ?_
              refine W_loadB (vs := vaC (V.getD sn zeroV)) rfl ty50 rfl (b := bf) (by repeat (first | exact List.mem_cons_self | apply List.mem_cons_of_mem | apply List.mem_append_right)) (by rw [vaRow_len, Nat.ble_eq]; omega) (by rw [Nat.zero_add]; exact va_at (getV hV (i := sn) (by omega))) rfl ?_
              refine W_nil ?_
              refine WA_goal ?_
              refine WA_one 10 (l' := #[true, true, true, true, true, true, true, true, true, true, true, false]) (by decide +kernel) rfl (by decide +kernel) (fun _ h => by cases h) ?_
              refine W_call (.cons rfl (.cons rfl (.cons rfl .nil))) Tryd.call28 rfl ((SetWord_L (H := (b3, .cells 44 5 [.int .i64 x.op, .int .i64 x.dst, .int .i64 x.src, .int .i64 x.off, .int .i64 x.imm]) :: H) (at_ := x.off) (x := V.getD sn zeroV) hV).hsub (by repeat (first | with_reducible exact HSub.refl _ | refine HSub.cons (by repeat (first | exact Take.here _ | apply Take.next | apply Take.app)) ?_ | refine HSub.app (by repeat (first | with_reducible exact TakeS.here _ | apply TakeS.next | apply TakeS.app)) ?_ | exact HSub.nil _ | exact HSub.refl _ | refine HSub.drop ?_ | refine HSub.dropS ?_))) ?_
              rintro v H' ⟨rfl, rfl⟩
              refine W_nil ?_
              refine WA_goal ?_
              refine WA_take 11 (l' := #[true, true, true, true, true, true, true, true, true, true, true, true]) rfl (by decide +kernel) (by decide +kernel) (by decide +kernel) (fun _ h => by cases h) (fun _ h => by cases h) (by decide +kernel) (X_assign rfl) rfl ?_
              refine WA_done (by decide +kernel) ?_
              refine W_joined (sub_cons rfl (sub_nil _)) (by repeat (first | with_reducible exact HSub.refl _ | refine HSub.cons (by repeat (first | exact Take.here _ | apply Take.next | apply Take.app)) ?_ | refine HSub.app (by repeat (first | with_reducible exact TakeS.here _ | apply TakeS.next | apply TakeS.app)) ?_ | exact HSub.nil _ | exact HSub.refl _ | refine HSub.drop ?_ | refine HSub.dropS ?_))
            · skip
              refine W_load rfl ty3 rfl (Cell.own (by repeat (first | exact List.mem_cons_self | apply List.mem_cons_of_mem | apply List.mem_append_right)) rfl) rfl ?_
              refine W_nil ?_
              refine WA_goal ?_
              refine WA_take 8 (l' := #[true, true, false, true, true, true, true, true, true, false, false, false]) rfl (by decide +kernel) (by decide +kernel) (by decide +kernel) (fun _ h => by cases h) (fun _ h => by cases h) (by decide +kernel) (X_indexAddrA (j := sn) rfl rfl ty127 ty50 (by assumption) (by omega) rfl) rfl ?_
              refine WA_two 2 9 (l' := #[true, true, true, true, true, true, true, true, true, false, false, false]) (l'' := #[true, true, false, true, true, true, true, true, true, true, false, false]) (by decide +kernel) rfl rfl (by decide +kernel) (by decide +kernel) ?_ ?_
              · skip
                refine W_load rfl ty3 rfl (Cell.own (by repeat (first | exact List.mem_cons_self | apply List.mem_cons_of_mem | apply List.mem_append_right)) rfl) rfl ?_
                refine W_nil ?_
                refine WA_goal ?_
                refine WA_one 9 (l' := #[true, true, true, true, true, true, true, true, true, true, false, false]) (by decide +kernel) rfl (by decide +kernel) (fun _ h => by cases h) ?_
                refine W_loadB (vs := vaC (V.getD sn zeroV)) rfl ty50 rfl (b := bf) (by repeat (first | exact List.mem_cons_self | apply List.mem_cons_of_mem | apply List.mem_append_right)) (by rw [vaRow_len, Nat.ble_eq]; omega) (by rw [Nat.zero_add]; exact va_at (getV hV (i := sn) (by omega))) rfl ?_
                refine W_nil ?_
                refine WA_goal ?_
                refine WA_one 10 (l' := #[true, true, true, true, true, true, true, true, true, true, true, false]) (by decide +kernel) rfl (by decide +kernel) (fun _ h => by cases h) ?_
                refine W_call (.cons rfl (.cons rfl (.cons rfl .nil))) Tryd.call28 rfl ((SetWord_L (H := (b3, .cells 44 5 [.int .i64 x.op, .int .i64 x.dst, .int .i64 x.src, .int .i64 x.off, .int .i64 x.imm]) :: H) (at_ := x.off) (x := V.getD sn zeroV) hV).hsub (by repeat (first | with_reducible exact HSub.refl _ | refine HSub.cons (by repeat (first | exact Take.here _ | apply Take.next | apply Take.app)) ?_ | refine HSub.app (by repeat (first | with_reducible exact TakeS.here _ | apply TakeS.next | apply TakeS.app)) ?_ | exact HSub.nil _ | exact HSub.refl _ | refine HSub.drop ?_ | refine HSub.dropS ?_))) ?_
                rintro v H' ⟨rfl, rfl⟩
                refine W_nil ?_
                refine WA_goal ?_
                refine WA_take 11 (l' := #[true, true, true, true, true, true, true, true, true, true, true, true]) rfl (by decide +kernel) (by decide +kernel) (by decide +kernel) (fun _ h => by cases h) (fun _ h => by cases h) (by decide +kernel) (X_assign rfl) rfl ?_
                refine WA_done (by decide +kernel) ?_
                refine W_joined (sub_cons rfl (sub_nil _)) (by repeat (first | with_reducible exact HSub.refl _ | refine HSub.cons (by repeat (first | exact Take.here _ | apply Take.next | apply Take.app)) ?_ | refine HSub.app (by repeat (first | with_reducible exact TakeS.here _ | apply TakeS.next | apply TakeS.app)) ?_ | exact HSub.nil _ | exact HSub.refl _ | refine HSub.drop ?_ | refine HSub.dropS ?_))
              · skip
                refine W_loadB (vs := vaC (V.getD sn zeroV)) rfl ty50 rfl (b := bf) (by repeat (first | exact List.mem_cons_self | apply List.mem_cons_of_mem | apply List.mem_append_right)) (by rw [vaRow_len, Nat.ble_eq]; omega) (by rw [Nat.zero_add]; exact va_at (getV hV (i := sn) (by omega))) rfl ?_
                refine W_nil ?_
                refine WA_goal ?_
                refine WA_one 2 (l' := #[true, true, true, true, true, true, true, true, true, true, false, false]) (by decide +kernel) rfl (by decide +kernel) (fun _ h => by cases h) ?_
                refine W_load rfl ty3 rfl (Cell.own (by repeat (first | exact List.mem_cons_self | apply List.mem_cons_of_mem | apply List.mem_append_right)) rfl) rfl ?_
                refine W_nil ?_
                refine WA_goal ?_
                refine WA_one 10 (l' := #[true, true, true, true, true, true, true, true, true, true, true, false]) (by decide +kernel) rfl (by decide +kernel) (fun _ h => by cases h) ?_
                refine W_call (.cons rfl (.cons rfl (.cons rfl .nil))) Tryd.call28 rfl ((SetWord_L (H := (b3, .cells 44 5 [.int .i64 x.op, .int .i64 x.dst, .int .i64 x.src, .int .i64 x.off, .int .i64 x.imm]) :: H) (at_ := x.off) (x := V.getD sn zeroV) hV).hsub (by repeat (first | with_reducible exact HSub.refl _ | refine HSub.cons (by repeat (first | exact Take.here _ | apply Take.next | apply Take.app)) ?_ | refine HSub.app (by repeat (first | with_reducible exact TakeS.here _ | apply TakeS.next | apply TakeS.app)) ?_ | exact HSub.nil _ | exact HSub.refl _ | refine HSub.drop ?_ | refine HSub.dropS ?_))) ?_
                rintro v H' ⟨rfl, rfl⟩
                refine W_nil ?_
                refine WA_goal ?_
                refine WA_take 11 (l' := #[true, true, true, true, true, true, true, true, true, true, true, true]) rfl (by decide +kernel) (by decide +kernel) (by decide +kernel) (fun _ h => by cases h) (fun _ h => by cases h) (by decide +kernel) (X_assign rfl) rfl ?_
                refine WA_done (by decide +kernel) ?_
                refine W_joined (sub_cons rfl (sub_nil _)) (by repeat (first | with_reducible exact HSub.refl _ | refine HSub.cons (by repeat (first | exact Take.here _ | apply Take.next | apply Take.app)) ?_ | refine HSub.app (by repeat (first | with_reducible exact TakeS.here _ | apply TakeS.next | apply TakeS.app)) ?_ | exact HSub.nil _ | exact HSub.refl _ | refine HSub.drop ?_ | refine HSub.dropS ?_))
          refine W_ret1m (H2 := (bf, .cells 130 90 (vaRow (wrV V true x.off (V.getD sn zeroV)).1)) :: H) Tryd.results21 rfl (.nil _) (by repeat (first | with_reducible exact HSub.refl _ | refine HSub.cons (by repeat (first | exact Take.here _ | apply Take.next | apply Take.app)) ?_ | refine HSub.app (by repeat (first | with_reducible exact TakeS.here _ | apply TakeS.next | apply TakeS.app)) ?_ | exact HSub.nil _ | exact HSub.refl _ | refine HSub.drop ?_ | refine HSub.dropS ?_)) ?_
          unfold doV
          rw [if_neg (fun h => h c0), if_neg c1, if_neg c2, if_pos c3, hsT]
          exact ⟨rfl, rfl⟩
        · simp only [cond_true, cond_false, Bool.and_eq_true, Bool.or_eq_true, Bool.and_eq_false_iff, Bool.or_eq_false_iff, decide_eq_true_eq, decide_eq_false_iff_not, Bool.not_eq_true', Bool.not_eq_false', ne_eq, Decidable.not_not] at c3
          refine W_skip ?_
          refine W_blk ?_
          refine W_sr ?_
          refine W_assign rfl rfl ?_
          refine W_nil ?_
          refine W_ret1m (H2 := (bf, .cells 130 90 (vaRow V)) :: H) Tryd.results21 rfl (.nil _) (by repeat (first | with_reducible exact HSub.refl _ | refine HSub.cons (by repeat (first | exact Take.here _ | apply Take.next | apply Take.app)) ?_ | refine HSub.app (by repeat (first | with_reducible exact TakeS.here _ | apply TakeS.next | apply TakeS.app)) ?_ | exact HSub.nil _ | exact HSub.refl _ | refine HSub.drop ?_ | refine HSub.dropS ?_)) ?_
          unfold doV
          rw [if_neg (fun h => h c0), if_neg c1, if_neg c2, if_neg c3]
          exact ⟨rfl, rfl⟩
end Go.Proofs.YtkhkagjbeilbgaaDoor
