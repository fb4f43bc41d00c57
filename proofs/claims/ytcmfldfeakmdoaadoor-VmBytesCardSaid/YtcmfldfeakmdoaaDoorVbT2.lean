/-
  Own work: contracts of functions that the statement reaches, and plain facts on what they compute; each theorem says its conditions.
-/
import Derived.Test.YtcmfldfeakmdoaaDoorVbT1
import Derived.Test.YtcmfldfeakmdoaaDoorVbS2
import Derived.ChangeKeysEq
import Derived.Test.YtcmfldfeakmdoaaDoorVbS1
import Derived.Test.YtcmfldfeakmdoaaDoorVbA
set_option linter.all false
set_option linter.unusedSimpArgs false
set_option linter.unusedVariables false
namespace Go.Proofs.YtcmfldfeakmdoaaDoor
open Go Go.Sl
attribute [local irreducible] W
def outB (n low high : Int) : Bool := decide (n < low) || decide (high ≤ n)
def eqU (u v : Uses) : Bool := (u.d == v.d) && ((u.s == v.s) && ((u.o == v.o) && ((u.i == v.i) && true)))
def isaChk (x : Ins) : Int :=
  if cls x.op = 0 then 11 else if (outB x.dst 0 10 || outB x.src 0 10 || outB x.off (-32768) 32768 || outB x.imm (-2147483648) 2147483648) = true then 2
  else if (!(eqU (hasU x) (andU (hasU x) (usedU x.op)))) = true then 9 else 0
set_option maxHeartbeats 1000000 in
theorem isaChk_pure (x : Ins) : Pure Tryd.prog (Tab) 32 [.agg #[.int .i64 x.op, .int .i64 x.dst, .int .i64 x.src, .int .i64 x.off, .int .i64 x.imm]] (.int .i64 (isaChk x)) := by
  intro w0 H hT
  refine L_enter Tryd.func32 rfl Tryd.ntmps32 rfl rfl ?_
  refine W_sr ?_
  refine W_box rfl rfl rfl (fun b1 => ?_)
  refine W_assign rfl rfl ?_
  refine W_nil ?_
  refine W_sr ?_
  refine W_assign rfl rfl ?_
  refine W_nil ?_
  refine W_seq ?_
  refine W_sr ?_
  refine W_loadB rfl ty59 rfl zM rfl zF rfl ?_
  refine W_callp (.cons rfl .nil) Tryd.call48 rfl hT (has_pure _) ?_
  refine W_alloc ty104 rfl rfl (fun b4 => ?_)
  refine W_storeA rfl rfl ty104 rfl rfl zM (Nat.le_of_ble_eq_true rfl) zF zU ?_
  refine W_nil ?_
  refine W_block ?_
  refine W_sr ?_
  refine W_fieldAddr rfl fld59_0 (by decide) rfl ?_
  refine W_load rfl ty3 rfl (Cell.own zM rfl) rfl ?_
  refine W_callp (.cons rfl .nil) Tryd.call49 rfl hT (class_pure _) ?_
  refine W_bin rfl rfl b_eql rfl ?_
  refine W_assign rfl rfl ?_
  refine W_nil ?_
  refine W_condPS (p := cls x.op = 0) rfl (by simp) (fun c0 => ?_) (fun c0 => ?_)
  · skip
    refine W_sr ?_
    refine W_assign rfl rfl ?_
    refine W_nil ?_
    refine W_ret1m (H2 := H) Tryd.results32 rfl (.nil _) zH ?_
    exact ⟨by unfold isaChk; rw [if_pos c0], rfl⟩
  · skip
    refine W_sr ?_
    refine W_move rfl rfl ?_
    refine W_fieldAddr rfl fld59_1 (by decide) rfl ?_
    refine W_load rfl ty3 rfl (Cell.own zM rfl) rfl ?_
    refine W_callvp (fa := []) (ca := []) rfl (.cons rfl (.cons rfl (.cons rfl .nil))) rfl Tryd.call47 rfl hT (out_pure _ _ _) ?_
    refine W_move rfl rfl ?_
    apply W_or
    iterate 4 exact rfl
    case h1 =>
      intro hg4
      refine W_gyes rfl rfl ?_
      refine W_move rfl rfl ?_
      refine W_gyes rfl rfl ?_
      refine W_fieldAddr rfl fld59_2 (by decide) rfl ?_
      refine W_gyes rfl rfl ?_
      refine W_load rfl ty3 rfl (Cell.own zM rfl) rfl ?_
      refine W_gyes rfl rfl ?_
      refine W_callvp (fa := []) (ca := []) rfl (.cons rfl (.cons rfl (.cons rfl .nil))) rfl Tryd.call47 rfl hT (out_pure _ _ _) ?_
      exact W_met rfl zR
    refine W_move rfl rfl ?_
    apply W_or
    iterate 4 exact rfl
    case h1 =>
      intro hg10
      refine W_gyes rfl rfl ?_
      refine W_move rfl rfl ?_
      refine W_gyes rfl rfl ?_
      refine W_fieldAddr rfl fld59_3 (by decide) rfl ?_
      refine W_gyes rfl rfl ?_
      refine W_load rfl ty3 rfl (Cell.own zM rfl) rfl ?_
      refine W_gyes rfl rfl ?_
      refine W_callvp (fa := []) (ca := []) rfl (.cons rfl (.cons rfl (.cons rfl .nil))) rfl Tryd.call47 rfl hT (out_pure _ _ _) ?_
      exact W_met rfl zR
    refine W_move rfl rfl ?_
    apply W_or
    iterate 4 exact rfl
    case h1 =>
      intro hg16
      refine W_gyes rfl rfl ?_
      refine W_move rfl rfl ?_
      refine W_gyes rfl rfl ?_
      refine W_fieldAddr rfl fld59_4 (by decide) rfl ?_
      refine W_gyes rfl rfl ?_
      refine W_load rfl ty3 rfl (Cell.own zM rfl) rfl ?_
      refine W_gyes rfl rfl ?_
      refine W_callvp (fa := []) (ca := []) rfl (.cons rfl (.cons rfl (.cons rfl .nil))) rfl Tryd.call47 rfl hT (out_pure _ _ _) ?_
      exact W_met rfl zR
    refine W_assign rfl rfl ?_
    refine W_nil ?_
    refine W_condS rfl (fun c1 => ?_) (fun c1 => ?_)
    · skip
      refine W_sr ?_
      refine W_assign rfl rfl ?_
      refine W_nil ?_
      refine W_ret1m (H2 := H) Tryd.results32 rfl (.nil _) zH ?_
      have c1 : (outB x.dst 0 10 || outB x.src 0 10 || outB x.off (-32768) 32768 || outB x.imm (-2147483648) 2147483648) = true := c1
      exact ⟨by unfold isaChk; rw [if_neg c0, if_pos c1], rfl⟩
    · skip
      refine W_quietsr (by kernel_rfl) (by decide +kernel) ?_
      refine WQ_x (X_loadB rfl ty104 rfl zM rfl zF) rfl ?_
      refine WQ_x (X_loadB rfl ty104 rfl zM rfl zF) rfl ?_
      refine WQ_x (X_fieldAddr rfl fld59_0 (by decide)) rfl ?_
      refine WQ_x (X_load rfl ty3 rfl (Cell.own zM rfl)) rfl ?_
      refine WQ_callp (.cons rfl .nil) Tryd.call51 rfl hT (used_pure _) ?_
      refine WQ_callp (.cons rfl (.cons rfl .nil)) Tryd.call50 rfl hT (and_pure _ _) ?_
      refine WQ_x (X_neA rfl rfl ty104 (by kernel_rfl) (by kernel_rfl) (.cons (by decide) ty4 rfl rfl rfl (eqv_bool ty4) (.cons (by decide) ty4 rfl rfl rfl (eqv_bool ty4) (.cons (by decide) ty4 rfl rfl rfl (eqv_bool ty4) (.cons (by decide) ty4 rfl rfl rfl (eqv_bool ty4) .nil))))) rfl ?_
      refine WQ_x (X_assign rfl) rfl ?_
      refine WQ_nil ?_
      refine W_condS rfl (fun c2 => ?_) (fun c2 => ?_)
      · skip
        refine W_sr ?_
        refine W_assign rfl rfl ?_
        refine W_nil ?_
        refine W_ret1m (H2 := H) Tryd.results32 rfl (.nil _) zH ?_
        have c1 : (outB x.dst 0 10 || outB x.src 0 10 || outB x.off (-32768) 32768 || outB x.imm (-2147483648) 2147483648) = false := c1
        have c2 : (!(eqU (hasU x) (andU (hasU x) (usedU x.op)))) = true := c2
        exact ⟨by unfold isaChk; rw [if_neg c0, if_neg (by rw [c1]; simp), if_pos c2], rfl⟩
      · skip
        refine W_skip ?_
        refine W_blk ?_
        refine W_sr ?_
        refine W_assign rfl rfl ?_
        refine W_nil ?_
        refine W_ret1m (H2 := H) Tryd.results32 rfl (.nil _) zH ?_
        have c1 : (outB x.dst 0 10 || outB x.src 0 10 || outB x.off (-32768) 32768 || outB x.imm (-2147483648) 2147483648) = false := c1
        have c2 : (!(eqU (hasU x) (andU (hasU x) (usedU x.op)))) = false := c2
        exact ⟨by unfold isaChk; rw [if_neg c0, if_neg (by rw [c1]; simp), if_neg (by rw [c2]; simp)], rfl⟩
end Go.Proofs.YtcmfldfeakmdoaaDoor
namespace Go.Proofs.YtcmfldfeakmdoaaDoor
open Go Go.Sl
attribute [local irreducible] W
def othr (V : List Va) (x : Ins) : Va := if (16 ≤ x.op ∧ cls x.op = 1) ∨ (49 ≤ x.op ∧ cls x.op = 2) then V.getD x.src.toNat zeroV else ⟨false, 0, 0, 0, IntKind.u64.wrap x.imm⟩
theorem getV {V : List Va} (hV : V.length = 18) {i : Nat} (hi : i < 18) : V[i]? = some (V.getD i zeroV) := by
  rw [List.getD_eq_getElem?_getD, List.getElem?_eq_getElem (by omega)]; rfl
set_option maxHeartbeats 1000000 in
theorem operands_L {w0 : World} {H : Heap} {bf : Nat} {V : List Va} {x : Ins} (hV : V.length = 18) (hd : 0 ≤ x.dst ∧ x.dst < 10) (hs : 0 ≤ x.src ∧ x.src < 10) (hT : Tab w0) : LCalls Tryd.prog w0 82 #[.pointer (some ⟨bf, 0, none⟩), .agg #[.int .i64 x.op, .int .i64 x.dst, .int .i64 x.src, .int .i64 x.off, .int .i64 x.imm]] ((bf, .cells 101 90 (vaRow V)) :: H) (fun v H' => v = .tuple #[.agg (vaC (V.getD x.dst.toNat zeroV)).toArray, .agg (vaC (othr V x)).toArray] ∧ H' = (bf, .cells 101 90 (vaRow V)) :: H) := by
  obtain ⟨dn, hdn⟩ : ∃ dn : Nat, x.dst = (dn : Int) := ⟨x.dst.toNat, by omega⟩
  obtain ⟨sn, hsn⟩ : ∃ sn : Nat, x.src = (sn : Int) := ⟨x.src.toNat, by omega⟩
  have hdT : x.dst.toNat = dn := by omega
  have hsT : x.src.toNat = sn := by omega
  refine L_enter (l := [.pointer (some ⟨bf, 0, none⟩), .agg #[.int .i64 x.op, .int .i64 x.dst, .int .i64 x.src, .int .i64 x.off, .int .i64 x.imm]]) Tryd.func82 rfl Tryd.ntmps82 rfl rfl ?_
  refine W_sr ?_
  refine W_box rfl rfl rfl (fun b3 => ?_)
  refine W_alloc ty41 rfl rfl (fun b4 => ?_)
  refine W_alloc ty41 rfl rfl (fun b5 => ?_)
  refine W_nil ?_
  refine W_seq ?_
  refine W_sr ?_
  refine W_fieldAddr rfl fld59_0 (by decide) rfl ?_
  refine W_load rfl ty3 rfl (Cell.own zM rfl) rfl ?_
  refine W_bin rfl rfl b_geq rfl ?_
  refine W_move rfl rfl ?_
  apply W_and
  iterate 4 exact rfl
  case h1 =>
    intro hg3
    refine W_gyes rfl rfl ?_
    refine W_fieldAddr rfl fld59_0 (by decide) rfl ?_
    refine W_gyes rfl rfl ?_
    refine W_load rfl ty3 rfl (Cell.own zM rfl) rfl ?_
    refine W_gyes rfl rfl ?_
    refine W_callp (.cons rfl .nil) Tryd.call49 rfl hT (class_pure _) ?_
    refine W_gyes rfl rfl ?_
    refine W_bin rfl rfl b_eql rfl ?_
    exact W_met rfl zR
  refine W_move rfl rfl ?_
  apply W_or
  iterate 4 exact rfl
  case h1 =>
    intro hg9
    refine W_gyes rfl rfl ?_
    refine W_fieldAddr rfl fld59_0 (by decide) rfl ?_
    refine W_gyes rfl rfl ?_
    refine W_load rfl ty3 rfl (Cell.own zM rfl) rfl ?_
    refine W_gyes rfl rfl ?_
    refine W_bin rfl rfl b_geq rfl ?_
    refine W_gyes rfl rfl ?_
    refine W_move rfl rfl ?_
    apply W_and
    iterate 4 exact rfl
    case h1 =>
      intro hg13
      refine W_gyes rfl rfl ?_
      refine W_fieldAddr rfl fld59_0 (by decide) rfl ?_
      refine W_gyes rfl rfl ?_
      refine W_load rfl ty3 rfl (Cell.own zM rfl) rfl ?_
      refine W_gyes rfl rfl ?_
      refine W_callp (.cons rfl .nil) Tryd.call49 rfl hT (class_pure _) ?_
      refine W_gyes rfl rfl ?_
      refine W_bin rfl rfl b_eql rfl ?_
      exact W_met rfl zR
    exact W_met rfl zR
  refine W_nil ?_
  refine W_condS rfl (fun c0 => ?_) (fun c0 => ?_)
  · simp only [cond_true, cond_false, Bool.and_eq_true, Bool.or_eq_true, Bool.and_eq_false_iff, Bool.or_eq_false_iff, decide_eq_true_eq, decide_eq_false_iff_not, Bool.not_eq_true', Bool.not_eq_false', ne_eq, Decidable.not_not] at c0
    refine W_seq ?_
    refine W_anyC ((b3, .cells 59 5 [.int .i64 x.op, .int .i64 x.dst, .int .i64 x.src, .int .i64 x.off, .int .i64 x.imm]) :: (bf, .cells 101 90 (vaRow V)) :: H) (by kernel_rfl) ?_
    refine WC_take 0 (l' := #[true, false, false, false, false, false, false, false, false, false, false, false, false, false, false, false]) rfl (by decide +kernel) (by decide +kernel) (by decide +kernel) rfl (by decide +kernel) (X_move rfl) rfl ?_
    refine WC_take 1 (l' := #[true, true, false, false, false, false, false, false, false, false, false, false, false, false, false, false]) rfl (by decide +kernel) (by decide +kernel) (by decide +kernel) rfl (by decide +kernel) (X_fieldAddr rfl fld59_1 (by decide)) rfl ?_
    refine WC_take 2 (l' := #[true, true, true, false, false, false, false, false, false, false, false, false, false, false, false, false]) rfl (by decide +kernel) (by decide +kernel) (by decide +kernel) rfl (by decide +kernel) (X_load rfl ty3 rfl (Cell.own zM rfl)) rfl ?_
    refine WC_take 3 (l' := #[true, true, true, true, false, false, false, false, false, false, false, false, false, false, false, false]) rfl (by decide +kernel) (by decide +kernel) (by decide +kernel) rfl (by decide +kernel) (X_nilCheck rfl) rfl ?_
    refine WC_take 4 (l' := #[true, true, true, true, true, false, false, false, false, false, false, false, false, false, false, false]) rfl (by decide +kernel) (by decide +kernel) (by decide +kernel) rfl (by decide +kernel) (X_fieldAddr rfl fld101_0 (by decide)) rfl ?_
    refine WC_take 5 (l' := #[true, true, true, true, true, true, false, false, false, false, false, false, false, false, false, false]) rfl (by decide +kernel) (by decide +kernel) (by decide +kernel) rfl (by decide +kernel) (X_indexAddrA (j := dn) rfl rfl ty98 ty41 (by assumption) (by omega) rfl) rfl ?_
    refine WC_take 6 (l' := #[true, true, true, true, true, true, true, false, false, false, false, false, false, false, false, false]) rfl (by decide +kernel) (by decide +kernel) (by decide +kernel) rfl (by decide +kernel) (X_loadB (vs := vaC (V.getD dn zeroV)) rfl ty41 rfl (b := bf) zM (by rw [vaRow_len, Nat.ble_eq]; omega) (by rw [Nat.zero_add]; exact va_at (getV hV (i := dn) (by omega)))) rfl ?_
    refine WC_take 7 (l' := #[true, true, true, true, true, true, true, true, false, false, false, false, false, false, false, false]) rfl (by decide +kernel) (by decide +kernel) (by decide +kernel) rfl (by decide +kernel) (X_move rfl) rfl ?_
    refine WC_take 8 (l' := #[true, true, true, true, true, true, true, true, true, false, false, false, false, false, false, false]) rfl (by decide +kernel) (by decide +kernel) (by decide +kernel) rfl (by decide +kernel) (X_fieldAddr rfl fld59_2 (by decide)) rfl ?_
    refine WC_take 9 (l' := #[true, true, true, true, true, true, true, true, true, true, false, false, false, false, false, false]) rfl (by decide +kernel) (by decide +kernel) (by decide +kernel) rfl (by decide +kernel) (X_load rfl ty3 rfl (Cell.own zM rfl)) rfl ?_
    refine WC_take 10 (l' := #[true, true, true, true, true, true, true, true, true, true, true, false, false, false, false, false]) rfl (by decide +kernel) (by decide +kernel) (by decide +kernel) rfl (by decide +kernel) (X_nilCheck rfl) rfl ?_
    refine WC_take 11 (l' := #[true, true, true, true, true, true, true, true, true, true, true, true, false, false, false, false]) rfl (by decide +kernel) (by decide +kernel) (by decide +kernel) rfl (by decide +kernel) (X_fieldAddr rfl fld101_0 (by decide)) rfl ?_
    refine WC_take 12 (l' := #[true, true, true, true, true, true, true, true, true, true, true, true, true, false, false, false]) rfl (by decide +kernel) (by decide +kernel) (by decide +kernel) rfl (by decide +kernel) (X_indexAddrA (j := sn) rfl rfl ty98 ty41 (by assumption) (by omega) rfl) rfl ?_
    refine WC_take 13 (l' := #[true, true, true, true, true, true, true, true, true, true, true, true, true, true, false, false]) rfl (by decide +kernel) (by decide +kernel) (by decide +kernel) rfl (by decide +kernel) (X_loadB (vs := vaC (V.getD sn zeroV)) rfl ty41 rfl (b := bf) zM (by rw [vaRow_len, Nat.ble_eq]; omega) (by rw [Nat.zero_add]; exact va_at (getV hV (i := sn) (by omega)))) rfl ?_
    refine WC_one 14 (l' := #[true, true, true, true, true, true, true, true, true, true, true, true, true, true, true, false]) zH (by decide +kernel) rfl (by decide +kernel) ?_
    refine W_storeA rfl rfl ty41 rfl rfl (b := b4) zM (by decide) rfl zU ?_
    refine W_nil ?_
    refine WC_goal ?_
    refine WC_one 15 (l' := #[true, true, true, true, true, true, true, true, true, true, true, true, true, true, true, true]) zH (by decide +kernel) rfl (by decide +kernel) ?_
    refine W_storeA rfl rfl ty41 rfl rfl (b := b5) zM (by decide) rfl zU ?_
    refine W_nil ?_
    refine WC_goal ?_
    refine WC_done zH (by decide +kernel) ?_
    refine W_ret2G (H2 := (bf, .cells 101 90 (vaRow V)) :: H) Tryd.results82 (.nil _) (.own rfl ty41 rfl zM rfl) (.own rfl ty41 rfl zM rfl) zH ?_
    exact ⟨by rw [hdT]; unfold othr; rw [if_pos (by omega), hsT]; rfl, rfl⟩
  · simp only [cond_true, cond_false, Bool.and_eq_true, Bool.or_eq_true, Bool.and_eq_false_iff, Bool.or_eq_false_iff, decide_eq_true_eq, decide_eq_false_iff_not, Bool.not_eq_true', Bool.not_eq_false', ne_eq, Decidable.not_not] at c0
    refine W_skip ?_
    refine W_seq ?_
    refine W_anyC ((b3, .cells 59 5 [.int .i64 x.op, .int .i64 x.dst, .int .i64 x.src, .int .i64 x.off, .int .i64 x.imm]) :: (bf, .cells 101 90 (vaRow V)) :: H) (by kernel_rfl) ?_
    refine WC_take 0 (l' := #[true, false, false, false, false, false, false, false, false, false, false, false, false]) rfl (by decide +kernel) (by decide +kernel) (by decide +kernel) rfl (by decide +kernel) (X_move rfl) rfl ?_
    refine WC_take 1 (l' := #[true, true, false, false, false, false, false, false, false, false, false, false, false]) rfl (by decide +kernel) (by decide +kernel) (by decide +kernel) rfl (by decide +kernel) (X_fieldAddr rfl fld59_1 (by decide)) rfl ?_
    refine WC_take 2 (l' := #[true, true, true, false, false, false, false, false, false, false, false, false, false]) rfl (by decide +kernel) (by decide +kernel) (by decide +kernel) rfl (by decide +kernel) (X_load rfl ty3 rfl (Cell.own zM rfl)) rfl ?_
    refine WC_take 3 (l' := #[true, true, true, true, false, false, false, false, false, false, false, false, false]) rfl (by decide +kernel) (by decide +kernel) (by decide +kernel) rfl (by decide +kernel) (X_nilCheck rfl) rfl ?_
    refine WC_take 4 (l' := #[true, true, true, true, true, false, false, false, false, false, false, false, false]) rfl (by decide +kernel) (by decide +kernel) (by decide +kernel) rfl (by decide +kernel) (X_fieldAddr rfl fld101_0 (by decide)) rfl ?_
    refine WC_take 5 (l' := #[true, true, true, true, true, true, false, false, false, false, false, false, false]) rfl (by decide +kernel) (by decide +kernel) (by decide +kernel) rfl (by decide +kernel) (X_indexAddrA (j := dn) rfl rfl ty98 ty41 (by assumption) (by omega) rfl) rfl ?_
    refine WC_take 6 (l' := #[true, true, true, true, true, true, true, false, false, false, false, false, false]) rfl (by decide +kernel) (by decide +kernel) (by decide +kernel) rfl (by decide +kernel) (X_loadB (vs := vaC (V.getD dn zeroV)) rfl ty41 rfl (b := bf) zM (by rw [vaRow_len, Nat.ble_eq]; omega) (by rw [Nat.zero_add]; exact va_at (getV hV (i := dn) (by omega)))) rfl ?_
    refine WC_take 7 (l' := #[true, true, true, true, true, true, true, true, false, false, false, false, false]) rfl (by decide +kernel) (by decide +kernel) (by decide +kernel) rfl (by decide +kernel) (X_fieldAddr rfl fld59_4 (by decide)) rfl ?_
    refine WC_take 8 (l' := #[true, true, true, true, true, true, true, true, true, false, false, false, false]) rfl (by decide +kernel) (by decide +kernel) (by decide +kernel) rfl (by decide +kernel) (X_load rfl ty3 rfl (Cell.own zM rfl)) rfl ?_
    refine WC_one 9 (l' := #[true, true, true, true, true, true, true, true, true, true, false, false, false]) zH (by decide +kernel) rfl (by decide +kernel) ?_
    refine W_callp (.cons rfl .nil) Tryd.call86 rfl hT (word_pure _) ?_
    refine W_nil ?_
    refine WC_goal ?_
    refine WC_one 10 (l' := #[true, true, true, true, true, true, true, true, true, true, true, false, false]) zH (by decide +kernel) rfl (by decide +kernel) ?_
    refine W_callp (.cons rfl .nil) Tryd.call21 rfl (T := fun _ => True) trivial (Num_pure _) ?_
    refine W_nil ?_
    refine WC_goal ?_
    refine WC_one 11 (l' := #[true, true, true, true, true, true, true, true, true, true, true, true, false]) zH (by decide +kernel) rfl (by decide +kernel) ?_
    refine W_storeA rfl rfl ty41 rfl rfl (b := b4) zM (by decide) rfl zU ?_
    refine W_nil ?_
    refine WC_goal ?_
    refine WC_one 12 (l' := #[true, true, true, true, true, true, true, true, true, true, true, true, true]) zH (by decide +kernel) rfl (by decide +kernel) ?_
    refine W_storeA rfl rfl ty41 rfl rfl (b := b5) zM (by decide) rfl zU ?_
    refine W_nil ?_
    refine WC_goal ?_
    refine WC_done zH (by decide +kernel) ?_
    refine W_ret2G (H2 := (bf, .cells 101 90 (vaRow V)) :: H) Tryd.results82 (.nil _) (.own rfl ty41 rfl zM rfl) (.own rfl ty41 rfl zM rfl) zH ?_
    exact ⟨by rw [hdT]; unfold othr; rw [if_neg (by omega)]; rfl, rfl⟩
end Go.Proofs.YtcmfldfeakmdoaaDoor
namespace Go.Proofs.YtcmfldfeakmdoaaDoor
open Go Go.Sl
attribute [local irreducible] W
def sumV (V : List Va) (x : Ins) : List Va × Int :=
  if x.op = 11 ∨ x.op = 27 then (V.set x.dst.toNat (othr V x), 0)
  else if (V.getD x.dst.toNat zeroV).ref = true ∨ (othr V x).ref = true then (V, 17)
  else (V.set x.dst.toNat ⟨false, 0, 0, 0, doS (plainOf x.op) (V.getD x.dst.toNat zeroV).n (othr V x).n⟩, 0)
set_option maxHeartbeats 1000000 in
theorem sum_L {w0 : World} {H : Heap} {bf : Nat} {V : List Va} {x : Ins} (hV : V.length = 18) (hc : cls x.op = 1) (hop : -9223372036854775808 ≤ x.op ∧ x.op ≤ 9223372036854775807) (hn : 0 ≤ (othr V x).n) (hd : 0 ≤ x.dst ∧ x.dst < 10) (hs : 0 ≤ x.src ∧ x.src < 10) (hT : Tab w0) : LCalls Tryd.prog w0 72 #[.pointer (some ⟨bf, 0, none⟩), .agg #[.int .i64 x.op, .int .i64 x.dst, .int .i64 x.src, .int .i64 x.off, .int .i64 x.imm]] ((bf, .cells 101 90 (vaRow V)) :: H) (fun v H' => v = .int .i64 (sumV V x).2 ∧ H' = (bf, .cells 101 90 (vaRow (sumV V x).1)) :: H) := by
  obtain ⟨dn, hdn⟩ : ∃ dn : Nat, x.dst = (dn : Int) := ⟨x.dst.toNat, by omega⟩
  have hdT : x.dst.toNat = dn := by omega
  refine L_enter (l := [.pointer (some ⟨bf, 0, none⟩), .agg #[.int .i64 x.op, .int .i64 x.dst, .int .i64 x.src, .int .i64 x.off, .int .i64 x.imm]]) Tryd.func72 rfl Tryd.ntmps72 rfl rfl ?_
  refine W_sr ?_
  refine W_box rfl rfl rfl (fun b3 => ?_)
  refine W_assign rfl rfl ?_
  refine W_nil ?_
  refine W_sr ?_
  refine W_move rfl rfl ?_
  refine W_loadB rfl ty59 rfl zM rfl zF rfl ?_
  refine W_call (.cons rfl (.cons rfl .nil)) Tryd.call82 rfl ((operands_L (H := (b3, .cells 59 5 [.int .i64 x.op, .int .i64 x.dst, .int .i64 x.src, .int .i64 x.off, .int .i64 x.imm]) :: H) hV hd hs hT).hsub zH) ?_
  rintro v H' ⟨rfl, rfl⟩
  refine W_move rfl rfl ?_
  refine W_extract rfl rfl rfl ?_
  refine W_extract rfl rfl rfl ?_
  refine W_alloc ty41 rfl rfl (fun b5 => ?_)
  refine W_alloc ty41 rfl rfl (fun b6 => ?_)
  refine W_storeA rfl rfl ty41 rfl rfl (b := b5) zM (by decide) rfl zU ?_
  refine W_storeA rfl rfl ty41 rfl rfl (b := b6) zM (by decide) rfl zU ?_
  refine W_nil ?_
  refine W_seq ?_
  refine W_block ?_
  refine W_sr ?_
  refine W_fieldAddr rfl fld59_0 (by decide) rfl ?_
  refine W_load rfl ty3 rfl (Cell.own zM rfl) rfl ?_
  refine W_bin rfl rfl b_eql rfl ?_
  refine W_move rfl rfl ?_
  apply W_or
  iterate 4 exact rfl
  case h1 =>
    intro hg3
    refine W_gyes rfl rfl ?_
    refine W_fieldAddr rfl fld59_0 (by decide) rfl ?_
    refine W_gyes rfl rfl ?_
    refine W_load rfl ty3 rfl (Cell.own zM rfl) rfl ?_
    refine W_gyes rfl rfl ?_
    refine W_bin rfl rfl b_eql rfl ?_
    exact W_met rfl zR
  refine W_assign rfl rfl ?_
  refine W_nil ?_
  refine W_condS rfl (fun c0 => ?_) (fun c0 => ?_)
  · simp only [cond_true, cond_false, Bool.and_eq_true, Bool.or_eq_true, Bool.and_eq_false_iff, Bool.or_eq_false_iff, decide_eq_true_eq, decide_eq_false_iff_not, Bool.not_eq_true', Bool.not_eq_false', ne_eq, Decidable.not_not] at c0
    refine W_seq ?_
    refine W_cut [] ((bf, .cells 101 90 (vaRow (V.set dn (othr V x)))) :: H) ?_ ?_
    · skip
      refine W_any (by kernel_rfl) ?_
      refine WA_take 0 (l' := #[true, false, false, false, false, false, false, false]) rfl (by decide +kernel) (by decide +kernel) (by decide +kernel) (fun _ h => by cases h) (fun _ h => by cases h) (by decide +kernel) (X_move rfl) rfl ?_
      refine WA_take 1 (l' := #[true, true, false, false, false, false, false, false]) rfl (by decide +kernel) (by decide +kernel) (by decide +kernel) (fun _ h => by cases h) (fun _ h => by cases h) (by decide +kernel) (X_fieldAddr rfl fld59_1 (by decide)) rfl ?_
      refine WA_take 4 (l' := #[true, true, false, false, true, false, false, false]) rfl (by decide +kernel) (by decide +kernel) (by decide +kernel) (fun _ h => by cases h) (fun _ h => by cases h) (by decide +kernel) (X_nilCheck rfl) rfl ?_
      refine WA_take 5 (l' := #[true, true, false, false, true, true, false, false]) rfl (by decide +kernel) (by decide +kernel) (by decide +kernel) (fun _ h => by cases h) (fun _ h => by cases h) (by decide +kernel) (X_fieldAddr rfl fld101_0 (by decide)) rfl ?_
      refine WA_two 2 3 (l' := #[true, true, true, false, true, true, false, false]) (l'' := #[true, true, false, true, true, true, false, false]) (by decide +kernel) rfl rfl (by decide +kernel) (by decide +kernel) ?_ ?_
      · skip
        refine W_load rfl ty3 rfl (Cell.own zM rfl) rfl ?_
        refine W_nil ?_
        refine WA_goal ?_
        refine WA_one 3 (l' := #[true, true, true, true, true, true, false, false]) (by decide +kernel) rfl (by decide +kernel) (fun _ h => by cases h) ?_
        refine W_loadB (vs := vaC (othr V x)) rfl ty41 rfl zM rfl rfl rfl ?_
        refine W_nil ?_
        refine WA_goal ?_
        refine WA_take 6 (l' := #[true, true, true, true, true, true, true, false]) rfl (by decide +kernel) (by decide +kernel) (by decide +kernel) (fun _ h => by cases h) (fun _ h => by cases h) (by decide +kernel) (X_indexAddrA (j := dn) rfl rfl ty98 ty41 (by assumption) (by omega) rfl) rfl ?_
        refine WA_one 7 (l' := #[true, true, true, true, true, true, true, true]) (by decide +kernel) rfl (by decide +kernel) (fun _ h => by cases h) ?_
        refine W_storeA rfl rfl ty41 rfl rfl (b := bf) zM (by rw [vaRow_len]; exact (by omega : 0 + 0 + dn * 5 + 5 ≤ V.length * 5)) ((congrArg (fun z => spliceL (vaRow V) z (vaC (othr V x))) (Nat.zero_add (dn * 5))).trans (va_set (othr V x) (by omega))) zU ?_
        refine W_nil ?_
        refine WA_goal ?_
        refine WA_done (by decide +kernel) ?_
        refine W_joined (sub_nil _) zH
      · skip
        refine W_loadB (vs := vaC (othr V x)) rfl ty41 rfl zM rfl rfl rfl ?_
        refine W_nil ?_
        refine WA_goal ?_
        refine WA_one 2 (l' := #[true, true, true, true, true, true, false, false]) (by decide +kernel) rfl (by decide +kernel) (fun _ h => by cases h) ?_
        refine W_load rfl ty3 rfl (Cell.own zM rfl) rfl ?_
        refine W_nil ?_
        refine WA_goal ?_
        refine WA_take 6 (l' := #[true, true, true, true, true, true, true, false]) rfl (by decide +kernel) (by decide +kernel) (by decide +kernel) (fun _ h => by cases h) (fun _ h => by cases h) (by decide +kernel) (X_indexAddrA (j := dn) rfl rfl ty98 ty41 (by assumption) (by omega) rfl) rfl ?_
        refine WA_one 7 (l' := #[true, true, true, true, true, true, true, true]) (by decide +kernel) rfl (by decide +kernel) (fun _ h => by cases h) ?_
        refine W_storeA rfl rfl ty41 rfl rfl (b := bf) zM (by rw [vaRow_len]; exact (by omega : 0 + 0 + dn * 5 + 5 ≤ V.length * 5)) ((congrArg (fun z => spliceL (vaRow V) z (vaC (othr V x))) (Nat.zero_add (dn * 5))).trans (va_set (othr V x) (by omega))) zU ?_
        refine W_nil ?_
        refine WA_goal ?_
        refine WA_done (by decide +kernel) ?_
        refine W_joined (sub_nil _) zH
    refine W_sr ?_
    refine W_assign rfl rfl ?_
    refine W_nil ?_
    refine W_ret1m (H2 := (bf, .cells 101 90 (vaRow (V.set dn (othr V x)))) :: H) Tryd.results72 rfl (.nil _) zH ?_
    unfold sumV
    rw [if_pos c0, hdT]
    exact ⟨rfl, rfl⟩
  · simp only [cond_true, cond_false, Bool.and_eq_true, Bool.or_eq_true, Bool.and_eq_false_iff, Bool.or_eq_false_iff, decide_eq_true_eq, decide_eq_false_iff_not, Bool.not_eq_true', Bool.not_eq_false', ne_eq, Decidable.not_not] at c0
    refine W_sr ?_
    refine W_fieldAddr rfl fld41_0 (by decide) rfl ?_
    refine W_load rfl ty4 rfl (Cell.own zM rfl) rfl ?_
    refine W_move rfl rfl ?_
    apply W_or
    iterate 4 exact rfl
    case h1 =>
      intro hg2
      refine W_gyes rfl rfl ?_
      refine W_fieldAddr rfl fld41_0 (by decide) rfl ?_
      refine W_gyes rfl rfl ?_
      refine W_load rfl ty4 rfl (Cell.own zM rfl) rfl ?_
      exact W_met rfl zR
    refine W_assign rfl rfl ?_
    refine W_nil ?_
    refine W_condS rfl (fun c1 => ?_) (fun c1 => ?_)
    · simp only [cond_true, cond_false, Bool.and_eq_true, Bool.or_eq_true, Bool.and_eq_false_iff, Bool.or_eq_false_iff, decide_eq_true_eq, decide_eq_false_iff_not, Bool.not_eq_true', Bool.not_eq_false', ne_eq, Decidable.not_not] at c1
      refine W_sr ?_
      refine W_assign rfl rfl ?_
      refine W_nil ?_
      refine W_ret1m (H2 := (bf, .cells 101 90 (vaRow V)) :: H) Tryd.results72 rfl (.nil _) zH ?_
      unfold sumV
      rw [if_neg (by omega), if_pos c1]
      exact ⟨rfl, rfl⟩
    · simp only [cond_true, cond_false, Bool.and_eq_true, Bool.or_eq_true, Bool.and_eq_false_iff, Bool.or_eq_false_iff, decide_eq_true_eq, decide_eq_false_iff_not, Bool.not_eq_true', Bool.not_eq_false', ne_eq, Decidable.not_not] at c1
      refine W_skip ?_
      refine W_blk ?_
      refine W_sr ?_
      refine W_fieldAddr rfl fld59_0 (by decide) rfl ?_
      refine W_load rfl ty3 rfl (Cell.own zM rfl) rfl ?_
      refine W_fieldAddr rfl fld41_3 (by decide) rfl ?_
      refine W_load rfl ty28 rfl (Cell.own zM rfl) rfl ?_
      refine W_fieldAddr rfl fld41_3 (by decide) rfl ?_
      refine W_load rfl ty28 rfl (Cell.own zM rfl) rfl ?_
      refine W_callp (.cons rfl (.cons rfl (.cons rfl .nil))) Tryd.call84 rfl hT (v := .tuple #[U (doS (plainOf x.op) (V.getD x.dst.toNat zeroV).n (othr V x).n), .int .i64 0]) (by have h := do_pure x.op (V.getD x.dst.toNat zeroV).n (othr V x).n hop.1 hop.2 hn; unfold doR at h; rw [if_pos hc] at h; exact h) ?_
      refine W_move rfl rfl ?_
      refine W_extract rfl rfl rfl ?_
      refine W_extract rfl rfl rfl ?_
      refine W_assign rfl rfl ?_
      refine W_assign rfl rfl ?_
      refine W_nil ?_
      refine W_seq ?_
      refine W_sr ?_
      refine W_move rfl rfl ?_
      refine W_bin rfl rfl b_eql rfl ?_
      refine W_nil ?_
      refine W_condT rfl rfl ?_
      refine W_cut [(8, .int .i64 0)] ((bf, .cells 101 90 (vaRow (V.set dn ⟨false, 0, 0, 0, doS (plainOf x.op) (V.getD x.dst.toNat zeroV).n (othr V x).n⟩))) :: H) ?_ ?_
      · skip
        refine W_any (by kernel_rfl) ?_
        refine WA_take 0 (l' := #[true, false, false, false, false, false, false, false, false]) rfl (by decide +kernel) (by decide +kernel) (by decide +kernel) (fun _ h => by cases h) (fun _ h => by cases h) (by decide +kernel) (X_move rfl) rfl ?_
        refine WA_take 1 (l' := #[true, true, false, false, false, false, false, false, false]) rfl (by decide +kernel) (by decide +kernel) (by decide +kernel) (fun _ h => by cases h) (fun _ h => by cases h) (by decide +kernel) (X_fieldAddr rfl fld59_1 (by decide)) rfl ?_
        refine WA_take 3 (l' := #[true, true, false, true, false, false, false, false, false]) rfl (by decide +kernel) (by decide +kernel) (by decide +kernel) (fun _ h => by cases h) (fun _ h => by cases h) (by decide +kernel) (X_move rfl) rfl ?_
        refine WA_take 5 (l' := #[true, true, false, true, false, true, false, false, false]) rfl (by decide +kernel) (by decide +kernel) (by decide +kernel) (fun _ h => by cases h) (fun _ h => by cases h) (by decide +kernel) (X_nilCheck rfl) rfl ?_
        refine WA_take 6 (l' := #[true, true, false, true, false, true, true, false, false]) rfl (by decide +kernel) (by decide +kernel) (by decide +kernel) (fun _ h => by cases h) (fun _ h => by cases h) (by decide +kernel) (X_fieldAddr rfl fld101_0 (by decide)) rfl ?_
        refine WA_two 2 4 (l' := #[true, true, true, true, false, true, true, false, false]) (l'' := #[true, true, false, true, true, true, true, false, false]) (by decide +kernel) rfl rfl (by decide +kernel) (by decide +kernel) ?_ ?_
        · skip
          refine W_load rfl ty3 rfl (Cell.own zM rfl) rfl ?_
          refine W_nil ?_
          refine WA_goal ?_
          refine WA_one 4 (l' := #[true, true, true, true, true, true, true, false, false]) (by decide +kernel) rfl (by decide +kernel) (fun _ h => by cases h) ?_
          refine W_callp (.cons rfl .nil) Tryd.call21 rfl (T := fun _ => True) trivial (Num_pure _) ?_
          refine W_nil ?_
          refine WA_goal ?_
          refine WA_take 7 (l' := #[true, true, true, true, true, true, true, true, false]) rfl (by decide +kernel) (by decide +kernel) (by decide +kernel) (fun _ h => by cases h) (fun _ h => by cases h) (by decide +kernel) (X_indexAddrA (j := dn) rfl rfl ty98 ty41 (by assumption) (by omega) rfl) rfl ?_
          refine WA_one 8 (l' := #[true, true, true, true, true, true, true, true, true]) (by decide +kernel) rfl (by decide +kernel) (fun _ h => by cases h) ?_
          refine W_storeA rfl rfl ty41 rfl rfl (b := bf) zM (by rw [vaRow_len]; exact (by omega : 0 + 0 + dn * 5 + 5 ≤ V.length * 5)) ((congrArg (fun z => spliceL (vaRow V) z (vaC ⟨false, 0, 0, 0, doS (plainOf x.op) (V.getD x.dst.toNat zeroV).n (othr V x).n⟩)) (Nat.zero_add (dn * 5))).trans (va_set ⟨false, 0, 0, 0, doS (plainOf x.op) (V.getD x.dst.toNat zeroV).n (othr V x).n⟩ (by omega))) zU ?_
          refine W_nil ?_
          refine WA_goal ?_
          refine WA_done (by decide +kernel) ?_
          refine W_joined (sub_cons rfl (sub_nil _)) zH
        · skip
          refine W_callp (.cons rfl .nil) Tryd.call21 rfl (T := fun _ => True) trivial (Num_pure _) ?_
          refine W_nil ?_
          refine WA_goal ?_
          refine WA_one 2 (l' := #[true, true, true, true, true, true, true, false, false]) (by decide +kernel) rfl (by decide +kernel) (fun _ h => by cases h) ?_
          refine W_load rfl ty3 rfl (Cell.own zM rfl) rfl ?_
          refine W_nil ?_
          refine WA_goal ?_
          refine WA_take 7 (l' := #[true, true, true, true, true, true, true, true, false]) rfl (by decide +kernel) (by decide +kernel) (by decide +kernel) (fun _ h => by cases h) (fun _ h => by cases h) (by decide +kernel) (X_indexAddrA (j := dn) rfl rfl ty98 ty41 (by assumption) (by omega) rfl) rfl ?_
          refine WA_one 8 (l' := #[true, true, true, true, true, true, true, true, true]) (by decide +kernel) rfl (by decide +kernel) (fun _ h => by cases h) ?_
          refine W_storeA rfl rfl ty41 rfl rfl (b := bf) zM (by rw [vaRow_len]; exact (by omega : 0 + 0 + dn * 5 + 5 ≤ V.length * 5)) ((congrArg (fun z => spliceL (vaRow V) z (vaC ⟨false, 0, 0, 0, doS (plainOf x.op) (V.getD x.dst.toNat zeroV).n (othr V x).n⟩)) (Nat.zero_add (dn * 5))).trans (va_set ⟨false, 0, 0, 0, doS (plainOf x.op) (V.getD x.dst.toNat zeroV).n (othr V x).n⟩ (by omega))) zU ?_
          refine W_nil ?_
          refine WA_goal ?_
          refine WA_done (by decide +kernel) ?_
          refine W_joined (sub_cons rfl (sub_nil _)) zH
      refine W_sr ?_
      refine W_move rfl rfl ?_
      refine W_assign rfl rfl ?_
      refine W_nil ?_
      refine W_ret1m (H2 := (bf, .cells 101 90 (vaRow (V.set dn ⟨false, 0, 0, 0, doS (plainOf x.op) (V.getD x.dst.toNat zeroV).n (othr V x).n⟩))) :: H) Tryd.results72 rfl (.nil _) zH ?_
      unfold sumV
      rw [if_neg (by omega), if_neg (by intro h; rcases h with h | h <;> simp_all), hdT]
      exact ⟨rfl, rfl⟩
end Go.Proofs.YtcmfldfeakmdoaaDoor
namespace Go.Proofs.YtcmfldfeakmdoaaDoor
open Go Go.Sl
attribute [local irreducible] W
theorem chk_in {x : Ins} (h : isaChk x = 0) : cls x.op ≠ 0 ∧ (0 ≤ x.dst ∧ x.dst < 10) ∧ (0 ≤ x.src ∧ x.src < 10) := by
  unfold isaChk at h
  by_cases h0 : cls x.op = 0
  · rw [if_pos h0] at h; omega
  rw [if_neg h0] at h
  by_cases h1 : (outB x.dst 0 10 || outB x.src 0 10 || outB x.off (-32768) 32768 || outB x.imm (-2147483648) 2147483648) = true
  · rw [if_pos h1] at h; omega
  simp only [outB, Bool.or_eq_true, decide_eq_true_eq] at h1
  exact ⟨h0, by omega, by omega⟩
theorem getD_n {V : List Va} (hW : ∀ v ∈ V, 0 ≤ v.n) (i : Nat) : 0 ≤ (V.getD i zeroV).n := by
  rw [List.getD_eq_getElem?_getD]
  cases h : V[i]? with
  | none => exact Int.le_refl 0
  | some v => exact hW v (List.mem_of_getElem? h)
theorem othr_n {V : List Va} {x : Ins} (hW : ∀ v ∈ V, 0 ≤ v.n) : 0 ≤ (othr V x).n := by
  unfold othr
  split
  · exact getD_n hW _
  · show 0 ≤ IntKind.u64.wrap x.imm
    simp [IntKind.wrap, IntKind.signed, IntKind.bits, IntKind.max]; omega
def doV (V : List Va) (x : Ins) : List Va × Int :=
  if isaChk x ≠ 0 then (V, isaChk x)
  else if cls x.op = 1 then sumV V x
  else if x.op = 64 then (if (rdV V true x.off).2 = 0 then V.set x.dst.toNat (rdV V true x.off).1 else V, (rdV V true x.off).2)
  else if x.op = 65 then wrV V true x.off (V.getD x.src.toNat zeroV)
  else (V, 11)
set_option maxHeartbeats 1000000 in
theorem Do_L {w0 : World} {H : Heap} {bf : Nat} {V : List Va} {x : Ins} (hV : V.length = 18) (hop : -9223372036854775808 ≤ x.op ∧ x.op ≤ 9223372036854775807) (hW : ∀ v ∈ V, 0 ≤ v.n) (hT : Tab w0) : LCalls Tryd.prog w0 62 #[.pointer (some ⟨bf, 0, none⟩), .agg #[.int .i64 x.op, .int .i64 x.dst, .int .i64 x.src, .int .i64 x.off, .int .i64 x.imm]] ((bf, .cells 101 90 (vaRow V)) :: H) (fun v H' => v = .int .i64 (doV V x).2 ∧ H' = (bf, .cells 101 90 (vaRow (doV V x).1)) :: H) := by
  have hR : isaChk x = 0 → ∃ dn sn : Nat, x.dst = (dn : Int) ∧ x.src = (sn : Int) ∧ x.dst.toNat = dn ∧ x.src.toNat = sn ∧ dn < 10 ∧ sn < 10 := fun h => by
    obtain ⟨_, h1, h2⟩ := chk_in h
    exact ⟨x.dst.toNat, x.src.toNat, by omega, by omega, rfl, rfl, by omega, by omega⟩
  refine L_enter (l := [.pointer (some ⟨bf, 0, none⟩), .agg #[.int .i64 x.op, .int .i64 x.dst, .int .i64 x.src, .int .i64 x.off, .int .i64 x.imm]]) Tryd.func62 rfl Tryd.ntmps62 rfl rfl ?_
  refine W_sr ?_
  refine W_box rfl rfl rfl (fun b3 => ?_)
  refine W_assign rfl rfl ?_
  refine W_nil ?_
  refine W_seq ?_
  refine W_sr ?_
  refine W_move rfl rfl ?_
  refine W_x (X_ptrNil rfl rfl ty81) (fun _ h => by cases h) rfl ?_
  refine W_nil ?_
  refine W_condF rfl rfl ?_
  refine W_skip ?_
  refine W_seq ?_
  refine W_sr ?_
  refine W_loadB rfl ty59 rfl zM rfl zF rfl ?_
  refine W_callp (.cons rfl .nil) Tryd.call32 rfl hT (isaChk_pure _) ?_
  refine W_assign rfl rfl ?_
  refine W_nil ?_
  refine W_sr ?_
  refine W_move rfl rfl ?_
  refine W_bin rfl rfl b_neq rfl ?_
  refine W_nil ?_
  refine W_condS rfl (fun c0 => ?_) (fun c0 => ?_)
  · simp only [cond_true, cond_false, Bool.and_eq_true, Bool.or_eq_true, Bool.and_eq_false_iff, Bool.or_eq_false_iff, decide_eq_true_eq, decide_eq_false_iff_not, Bool.not_eq_true', Bool.not_eq_false', ne_eq, Decidable.not_not] at c0
    refine W_sr ?_
    refine W_move rfl rfl ?_
    refine W_assign rfl rfl ?_
    refine W_nil ?_
    refine W_ret1m (H2 := (bf, .cells 101 90 (vaRow V)) :: H) Tryd.results62 rfl (.nil _) zH ?_
    unfold doV
    rw [if_pos c0]
    exact ⟨rfl, rfl⟩
  · simp only [cond_true, cond_false, Bool.and_eq_true, Bool.or_eq_true, Bool.and_eq_false_iff, Bool.or_eq_false_iff, decide_eq_true_eq, decide_eq_false_iff_not, Bool.not_eq_true', Bool.not_eq_false', ne_eq, Decidable.not_not] at c0
    refine W_skip ?_
    refine W_seq ?_
    refine W_block ?_
    refine W_sr ?_
    refine W_fieldAddr rfl fld59_0 (by decide) rfl ?_
    refine W_load rfl ty3 rfl (Cell.own zM rfl) rfl ?_
    refine W_callp (.cons rfl .nil) Tryd.call49 rfl hT (class_pure _) ?_
    refine W_bin rfl rfl b_eql rfl ?_
    refine W_assign rfl rfl ?_
    refine W_nil ?_
    refine W_condS rfl (fun c1 => ?_) (fun c1 => ?_)
    · simp only [cond_true, cond_false, Bool.and_eq_true, Bool.or_eq_true, Bool.and_eq_false_iff, Bool.or_eq_false_iff, decide_eq_true_eq, decide_eq_false_iff_not, Bool.not_eq_true', Bool.not_eq_false', ne_eq, Decidable.not_not] at c1
      refine W_sr ?_
      refine W_move rfl rfl ?_
      refine W_loadB rfl ty59 rfl zM rfl zF rfl ?_
      refine W_call (.cons rfl (.cons rfl .nil)) Tryd.call72 rfl ((sum_L (H := (b3, .cells 59 5 [.int .i64 x.op, .int .i64 x.dst, .int .i64 x.src, .int .i64 x.off, .int .i64 x.imm]) :: H) hV c1 hop (othr_n hW) (chk_in (by simpa using c0)).2.1 (chk_in (by simpa using c0)).2.2 hT).hsub zH) ?_
      rintro v H' ⟨rfl, rfl⟩
      refine W_assign rfl rfl ?_
      refine W_nil ?_
      refine W_ret1m (H2 := (bf, .cells 101 90 (vaRow (sumV V x).1)) :: H) Tryd.results62 rfl (.nil _) zH ?_
      unfold doV
      rw [if_neg (fun h => h c0), if_pos c1]
      exact ⟨rfl, rfl⟩
    · simp only [cond_true, cond_false, Bool.and_eq_true, Bool.or_eq_true, Bool.and_eq_false_iff, Bool.or_eq_false_iff, decide_eq_true_eq, decide_eq_false_iff_not, Bool.not_eq_true', Bool.not_eq_false', ne_eq, Decidable.not_not] at c1
      refine W_sr ?_
      refine W_fieldAddr rfl fld59_0 (by decide) rfl ?_
      refine W_load rfl ty3 rfl (Cell.own zM rfl) rfl ?_
      refine W_bin rfl rfl b_eql rfl ?_
      refine W_assign rfl rfl ?_
      refine W_nil ?_
      refine W_condS rfl (fun c2 => ?_) (fun c2 => ?_)
      · simp only [cond_true, cond_false, Bool.and_eq_true, Bool.or_eq_true, Bool.and_eq_false_iff, Bool.or_eq_false_iff, decide_eq_true_eq, decide_eq_false_iff_not, Bool.not_eq_true', Bool.not_eq_false', ne_eq, Decidable.not_not] at c2
        refine W_sr ?_
        refine W_move rfl rfl ?_
        refine W_fieldAddr rfl fld59_3 (by decide) rfl ?_
        refine W_load rfl ty3 rfl (Cell.own zM rfl) rfl ?_
        refine W_call (.cons rfl (.cons rfl .nil)) Tryd.call73 rfl ((Word_L (H := (b3, .cells 59 5 [.int .i64 x.op, .int .i64 x.dst, .int .i64 x.src, .int .i64 x.off, .int .i64 x.imm]) :: H) (at_ := x.off) hV).hsub zH) ?_
        rintro v H' ⟨rfl, rfl⟩
        refine W_move rfl rfl ?_
        refine W_extract rfl rfl rfl ?_
        refine W_extract rfl rfl rfl ?_
        refine W_alloc ty41 rfl rfl (fun b6 => ?_)
        refine W_storeA rfl rfl ty41 rfl rfl (b := b6) zM (by decide) rfl zU ?_
        refine W_assign rfl rfl ?_
        refine W_nil ?_
        refine W_seq ?_
        refine W_sr ?_
        refine W_move rfl rfl ?_
        refine W_bin rfl rfl b_eql rfl ?_
        refine W_nil ?_
        refine W_condS rfl (fun c3 => ?_) (fun c3 => ?_)
        · simp only [cond_true, cond_false, Bool.and_eq_true, Bool.or_eq_true, Bool.and_eq_false_iff, Bool.or_eq_false_iff, decide_eq_true_eq, decide_eq_false_iff_not, Bool.not_eq_true', Bool.not_eq_false', ne_eq, Decidable.not_not] at c3
          obtain ⟨dn, sn, hdn, hsn, hdT, hsT, hdl, hsl⟩ := hR (by simpa using c0)
          refine W_cut [(7, .int .i64 (rdV V true x.off).2)] ((bf, .cells 101 90 (vaRow (V.set dn (rdV V true x.off).1))) :: H) ?_ ?_
          · skip
            refine W_any (by kernel_rfl) ?_
            refine WA_take 0 (l' := #[true, false, false, false, false, false, false, false]) rfl (by decide +kernel) (by decide +kernel) (by decide +kernel) (fun _ h => by cases h) (fun _ h => by cases h) (by decide +kernel) (X_move rfl) rfl ?_
            refine WA_take 1 (l' := #[true, true, false, false, false, false, false, false]) rfl (by decide +kernel) (by decide +kernel) (by decide +kernel) (fun _ h => by cases h) (fun _ h => by cases h) (by decide +kernel) (X_fieldAddr rfl fld59_1 (by decide)) rfl ?_
            refine WA_take 4 (l' := #[true, true, false, false, true, false, false, false]) rfl (by decide +kernel) (by decide +kernel) (by decide +kernel) (fun _ h => by cases h) (fun _ h => by cases h) (by decide +kernel) (X_nilCheck rfl) rfl ?_
            refine WA_take 5 (l' := #[true, true, false, false, true, true, false, false]) rfl (by decide +kernel) (by decide +kernel) (by decide +kernel) (fun _ h => by cases h) (fun _ h => by cases h) (by decide +kernel) (X_fieldAddr rfl fld101_0 (by decide)) rfl ?_
            refine WA_two 2 3 (l' := #[true, true, true, false, true, true, false, false]) (l'' := #[true, true, false, true, true, true, false, false]) (by decide +kernel) rfl rfl (by decide +kernel) (by decide +kernel) ?_ ?_
            · skip
              refine W_load rfl ty3 rfl (Cell.own zM rfl) rfl ?_
              refine W_nil ?_
              refine WA_goal ?_
              refine WA_one 3 (l' := #[true, true, true, true, true, true, false, false]) (by decide +kernel) rfl (by decide +kernel) (fun _ h => by cases h) ?_
              refine W_loadB (vs := vaC (rdV V true x.off).1) rfl ty41 rfl zM rfl rfl rfl ?_
              refine W_nil ?_
              refine WA_goal ?_
              refine WA_take 6 (l' := #[true, true, true, true, true, true, true, false]) rfl (by decide +kernel) (by decide +kernel) (by decide +kernel) (fun _ h => by cases h) (fun _ h => by cases h) (by decide +kernel) (X_indexAddrA (j := dn) rfl rfl ty98 ty41 (by assumption) (by omega) rfl) rfl ?_
              refine WA_one 7 (l' := #[true, true, true, true, true, true, true, true]) (by decide +kernel) rfl (by decide +kernel) (fun _ h => by cases h) ?_
              refine W_storeA rfl rfl ty41 rfl rfl (b := bf) zM (by rw [vaRow_len]; exact (by omega : 0 + 0 + dn * 5 + 5 ≤ V.length * 5)) ((congrArg (fun z => spliceL (vaRow V) z (vaC (rdV V true x.off).1)) (Nat.zero_add (dn * 5))).trans (va_set (rdV V true x.off).1 (by omega))) zU ?_
              refine W_nil ?_
              refine WA_goal ?_
              refine WA_done (by decide +kernel) ?_
              refine W_joined (sub_cons rfl (sub_nil _)) zH
            · skip
              refine W_loadB (vs := vaC (rdV V true x.off).1) rfl ty41 rfl zM rfl rfl rfl ?_
              refine W_nil ?_
              refine WA_goal ?_
              refine WA_one 2 (l' := #[true, true, true, true, true, true, false, false]) (by decide +kernel) rfl (by decide +kernel) (fun _ h => by cases h) ?_
              refine W_load rfl ty3 rfl (Cell.own zM rfl) rfl ?_
              refine W_nil ?_
              refine WA_goal ?_
              refine WA_take 6 (l' := #[true, true, true, true, true, true, true, false]) rfl (by decide +kernel) (by decide +kernel) (by decide +kernel) (fun _ h => by cases h) (fun _ h => by cases h) (by decide +kernel) (X_indexAddrA (j := dn) rfl rfl ty98 ty41 (by assumption) (by omega) rfl) rfl ?_
              refine WA_one 7 (l' := #[true, true, true, true, true, true, true, true]) (by decide +kernel) rfl (by decide +kernel) (fun _ h => by cases h) ?_
              refine W_storeA rfl rfl ty41 rfl rfl (b := bf) zM (by rw [vaRow_len]; exact (by omega : 0 + 0 + dn * 5 + 5 ≤ V.length * 5)) ((congrArg (fun z => spliceL (vaRow V) z (vaC (rdV V true x.off).1)) (Nat.zero_add (dn * 5))).trans (va_set (rdV V true x.off).1 (by omega))) zU ?_
              refine W_nil ?_
              refine WA_goal ?_
              refine WA_done (by decide +kernel) ?_
              refine W_joined (sub_cons rfl (sub_nil _)) zH
          refine W_sr ?_
          refine W_move rfl rfl ?_
          refine W_assign rfl rfl ?_
          refine W_nil ?_
          refine W_ret1m (H2 := (bf, .cells 101 90 (vaRow (V.set dn (rdV V true x.off).1))) :: H) Tryd.results62 rfl (.nil _) zH ?_
          unfold doV
          rw [if_neg (fun h => h c0), if_neg c1, if_pos c2, if_pos c3, hdT]
          exact ⟨rfl, rfl⟩
        · simp only [cond_true, cond_false, Bool.and_eq_true, Bool.or_eq_true, Bool.and_eq_false_iff, Bool.or_eq_false_iff, decide_eq_true_eq, decide_eq_false_iff_not, Bool.not_eq_true', Bool.not_eq_false', ne_eq, Decidable.not_not] at c3
          refine W_skip ?_
          refine W_sr ?_
          refine W_move rfl rfl ?_
          refine W_assign rfl rfl ?_
          refine W_nil ?_
          refine W_ret1m (H2 := (bf, .cells 101 90 (vaRow V)) :: H) Tryd.results62 rfl (.nil _) zH ?_
          unfold doV
          rw [if_neg (fun h => h c0), if_neg c1, if_pos c2, if_neg c3]
          exact ⟨rfl, rfl⟩
      · simp only [cond_true, cond_false, Bool.and_eq_true, Bool.or_eq_true, Bool.and_eq_false_iff, Bool.or_eq_false_iff, decide_eq_true_eq, decide_eq_false_iff_not, Bool.not_eq_true', Bool.not_eq_false', ne_eq, Decidable.not_not] at c2
        refine W_sr ?_
        refine W_fieldAddr rfl fld59_0 (by decide) rfl ?_
        refine W_load rfl ty3 rfl (Cell.own zM rfl) rfl ?_
        refine W_bin rfl rfl b_eql rfl ?_
        refine W_assign rfl rfl ?_
        refine W_nil ?_
        refine W_condS rfl (fun c3 => ?_) (fun c3 => ?_)
        · simp only [cond_true, cond_false, Bool.and_eq_true, Bool.or_eq_true, Bool.and_eq_false_iff, Bool.or_eq_false_iff, decide_eq_true_eq, decide_eq_false_iff_not, Bool.not_eq_true', Bool.not_eq_false', ne_eq, Decidable.not_not] at c3
          refine W_seq ?_
          obtain ⟨dn, sn, hdn, hsn, hdT, hsT, hdl, hsl⟩ := hR (by simpa using c0)
          refine W_cut [(4, .int .i64 (wrV V true x.off (V.getD sn zeroV)).2)] ((bf, .cells 101 90 (vaRow (wrV V true x.off (V.getD sn zeroV)).1)) :: H) ?_ ?_
          · skip
            refine W_any (by kernel_rfl) ?_
            refine WA_take 0 (l' := #[true, false, false, false, false, false, false, false, false, false, false, false]) rfl (by decide +kernel) (by decide +kernel) (by decide +kernel) (fun _ h => by cases h) (fun _ h => by cases h) (by decide +kernel) (X_move rfl) rfl ?_
            refine WA_take 1 (l' := #[true, true, false, false, false, false, false, false, false, false, false, false]) rfl (by decide +kernel) (by decide +kernel) (by decide +kernel) (fun _ h => by cases h) (fun _ h => by cases h) (by decide +kernel) (X_fieldAddr rfl fld59_3 (by decide)) rfl ?_
            refine WA_take 3 (l' := #[true, true, false, true, false, false, false, false, false, false, false, false]) rfl (by decide +kernel) (by decide +kernel) (by decide +kernel) (fun _ h => by cases h) (fun _ h => by cases h) (by decide +kernel) (X_move rfl) rfl ?_
            refine WA_take 4 (l' := #[true, true, false, true, true, false, false, false, false, false, false, false]) rfl (by decide +kernel) (by decide +kernel) (by decide +kernel) (fun _ h => by cases h) (fun _ h => by cases h) (by decide +kernel) (X_fieldAddr rfl fld59_2 (by decide)) rfl ?_
            refine WA_take 6 (l' := #[true, true, false, true, true, false, true, false, false, false, false, false]) rfl (by decide +kernel) (by decide +kernel) (by decide +kernel) (fun _ h => by cases h) (fun _ h => by cases h) (by decide +kernel) (X_nilCheck rfl) rfl ?_
            refine WA_take 7 (l' := #[true, true, false, true, true, false, true, true, false, false, false, false]) rfl (by decide +kernel) (by decide +kernel) (by decide +kernel) (fun _ h => by cases h) (fun _ h => by cases h) (by decide +kernel) (X_fieldAddr rfl fld101_0 (by decide)) rfl ?_
            refine WA_two 2 5 (l' := #[true, true, true, true, true, false, true, true, false, false, false, false]) (l'' := #[true, true, false, true, true, true, true, true, false, false, false, false]) (by decide +kernel) rfl rfl (by decide +kernel) (by decide +kernel) ?_ ?_
            · skip
              refine W_load rfl ty3 rfl (Cell.own zM rfl) rfl ?_
              refine W_nil ?_
              refine WA_goal ?_
              refine WA_one 5 (l' := #[true, true, true, true, true, true, true, true, false, false, false, false]) (by decide +kernel) rfl (by decide +kernel) (fun _ h => by cases h) ?_
              refine W_load rfl ty3 rfl (Cell.own zM rfl) rfl ?_
              refine W_nil ?_
              refine WA_goal ?_
              refine WA_take 8 (l' := #[true, true, true, true, true, true, true, true, true, false, false, false]) rfl (by decide +kernel) (by decide +kernel) (by decide +kernel) (fun _ h => by cases h) (fun _ h => by cases h) (by decide +kernel) (X_indexAddrA (j := sn) rfl rfl ty98 ty41 (by assumption) (by omega) rfl) rfl ?_
              refine WA_one 9 (l' := #[true, true, true, true, true, true, true, true, true, true, false, false]) (by decide +kernel) rfl (by decide +kernel) (fun _ h => by cases h) ?_
              refine W_loadB (vs := vaC (V.getD sn zeroV)) rfl ty41 rfl (b := bf) zM (by rw [vaRow_len, Nat.ble_eq]; omega) (by rw [Nat.zero_add]; exact va_at (getV hV (i := sn) (by omega))) rfl ?_
              refine W_nil ?_
              refine WA_goal ?_
              refine WA_one 10 (l' := #[true, true, true, true, true, true, true, true, true, true, true, false]) (by decide +kernel) rfl (by decide +kernel) (fun _ h => by cases h) ?_
              refine W_call (.cons rfl (.cons rfl (.cons rfl .nil))) Tryd.call74 rfl ((SetWord_L (H := (b3, .cells 59 5 [.int .i64 x.op, .int .i64 x.dst, .int .i64 x.src, .int .i64 x.off, .int .i64 x.imm]) :: H) (at_ := x.off) (x := V.getD sn zeroV) hV).hsub zH) ?_
              rintro v H' ⟨rfl, rfl⟩
              refine W_nil ?_
              refine WA_goal ?_
              refine WA_take 11 (l' := #[true, true, true, true, true, true, true, true, true, true, true, true]) rfl (by decide +kernel) (by decide +kernel) (by decide +kernel) (fun _ h => by cases h) (fun _ h => by cases h) (by decide +kernel) (X_assign rfl) rfl ?_
              refine WA_done (by decide +kernel) ?_
              refine W_joined (sub_cons rfl (sub_nil _)) zH
            · skip
              refine W_load rfl ty3 rfl (Cell.own zM rfl) rfl ?_
              refine W_nil ?_
              refine WA_goal ?_
              refine WA_take 8 (l' := #[true, true, false, true, true, true, true, true, true, false, false, false]) rfl (by decide +kernel) (by decide +kernel) (by decide +kernel) (fun _ h => by cases h) (fun _ h => by cases h) (by decide +kernel) (X_indexAddrA (j := sn) rfl rfl ty98 ty41 (by assumption) (by omega) rfl) rfl ?_
              refine WA_two 2 9 (l' := #[true, true, true, true, true, true, true, true, true, false, false, false]) (l'' := #[true, true, false, true, true, true, true, true, true, true, false, false]) (by decide +kernel) rfl rfl (by decide +kernel) (by decide +kernel) ?_ ?_
              · skip
                refine W_load rfl ty3 rfl (Cell.own zM rfl) rfl ?_
                refine W_nil ?_
                refine WA_goal ?_
                refine WA_one 9 (l' := #[true, true, true, true, true, true, true, true, true, true, false, false]) (by decide +kernel) rfl (by decide +kernel) (fun _ h => by cases h) ?_
                refine W_loadB (vs := vaC (V.getD sn zeroV)) rfl ty41 rfl (b := bf) zM (by rw [vaRow_len, Nat.ble_eq]; omega) (by rw [Nat.zero_add]; exact va_at (getV hV (i := sn) (by omega))) rfl ?_
                refine W_nil ?_
                refine WA_goal ?_
                refine WA_one 10 (l' := #[true, true, true, true, true, true, true, true, true, true, true, false]) (by decide +kernel) rfl (by decide +kernel) (fun _ h => by cases h) ?_
                refine W_call (.cons rfl (.cons rfl (.cons rfl .nil))) Tryd.call74 rfl ((SetWord_L (H := (b3, .cells 59 5 [.int .i64 x.op, .int .i64 x.dst, .int .i64 x.src, .int .i64 x.off, .int .i64 x.imm]) :: H) (at_ := x.off) (x := V.getD sn zeroV) hV).hsub zH) ?_
                rintro v H' ⟨rfl, rfl⟩
                refine W_nil ?_
                refine WA_goal ?_
                refine WA_take 11 (l' := #[true, true, true, true, true, true, true, true, true, true, true, true]) rfl (by decide +kernel) (by decide +kernel) (by decide +kernel) (fun _ h => by cases h) (fun _ h => by cases h) (by decide +kernel) (X_assign rfl) rfl ?_
                refine WA_done (by decide +kernel) ?_
                refine W_joined (sub_cons rfl (sub_nil _)) zH
              · skip
                refine W_loadB (vs := vaC (V.getD sn zeroV)) rfl ty41 rfl (b := bf) zM (by rw [vaRow_len, Nat.ble_eq]; omega) (by rw [Nat.zero_add]; exact va_at (getV hV (i := sn) (by omega))) rfl ?_
                refine W_nil ?_
                refine WA_goal ?_
                refine WA_one 2 (l' := #[true, true, true, true, true, true, true, true, true, true, false, false]) (by decide +kernel) rfl (by decide +kernel) (fun _ h => by cases h) ?_
                refine W_load rfl ty3 rfl (Cell.own zM rfl) rfl ?_
                refine W_nil ?_
                refine WA_goal ?_
                refine WA_one 10 (l' := #[true, true, true, true, true, true, true, true, true, true, true, false]) (by decide +kernel) rfl (by decide +kernel) (fun _ h => by cases h) ?_
                refine W_call (.cons rfl (.cons rfl (.cons rfl .nil))) Tryd.call74 rfl ((SetWord_L (H := (b3, .cells 59 5 [.int .i64 x.op, .int .i64 x.dst, .int .i64 x.src, .int .i64 x.off, .int .i64 x.imm]) :: H) (at_ := x.off) (x := V.getD sn zeroV) hV).hsub zH) ?_
                rintro v H' ⟨rfl, rfl⟩
                refine W_nil ?_
                refine WA_goal ?_
                refine WA_take 11 (l' := #[true, true, true, true, true, true, true, true, true, true, true, true]) rfl (by decide +kernel) (by decide +kernel) (by decide +kernel) (fun _ h => by cases h) (fun _ h => by cases h) (by decide +kernel) (X_assign rfl) rfl ?_
                refine WA_done (by decide +kernel) ?_
                refine W_joined (sub_cons rfl (sub_nil _)) zH
          refine W_ret1m (H2 := (bf, .cells 101 90 (vaRow (wrV V true x.off (V.getD sn zeroV)).1)) :: H) Tryd.results62 rfl (.nil _) zH ?_
          unfold doV
          rw [if_neg (fun h => h c0), if_neg c1, if_neg c2, if_pos c3, hsT]
          exact ⟨rfl, rfl⟩
        · simp only [cond_true, cond_false, Bool.and_eq_true, Bool.or_eq_true, Bool.and_eq_false_iff, Bool.or_eq_false_iff, decide_eq_true_eq, decide_eq_false_iff_not, Bool.not_eq_true', Bool.not_eq_false', ne_eq, Decidable.not_not] at c3
          refine W_skip ?_
          refine W_blk ?_
          refine W_sr ?_
          refine W_assign rfl rfl ?_
          refine W_nil ?_
          refine W_ret1m (H2 := (bf, .cells 101 90 (vaRow V)) :: H) Tryd.results62 rfl (.nil _) zH ?_
          unfold doV
          rw [if_neg (fun h => h c0), if_neg c1, if_neg c2, if_neg c3]
          exact ⟨rfl, rfl⟩
end Go.Proofs.YtcmfldfeakmdoaaDoor
namespace Go.Proofs.YtcmfldfeakmdoaaDoor
open Go Go.Sl
attribute [local irreducible] W
def jumpV (V : List Va) (x : Ins) : Bool × Int := if isaChk x ≠ 0 then (false, isaChk x) else if cls x.op = 2 then (jumpS (plainOf x.op) (V.getD x.dst.toNat zeroV).n (othr V x).n, 0) else (false, 11)
theorem jumpV_eq {V : List Va} {x : Ins} (h : isaChk x = 0) : jumpR x.op (V.getD x.dst.toNat zeroV).n (othr V x).n = .tuple #[.bool (jumpV V x).1, .int .i64 (jumpV V x).2] := by
  unfold jumpR jumpV
  by_cases h2 : cls x.op = 2
  · rw [if_pos h2, if_neg (fun h' => h' h), if_pos h2]
  · rw [if_neg h2, if_neg (fun h' => h' h), if_neg h2]
set_option maxHeartbeats 1000000 in
theorem Jumps_L {w0 : World} {H : Heap} {bf : Nat} {V : List Va} {x : Ins} (hV : V.length = 18) (hop : -9223372036854775808 ≤ x.op ∧ x.op ≤ 9223372036854775807) (hW : ∀ v ∈ V, 0 ≤ v.n) (hT : Tab w0) : LCalls Tryd.prog w0 71 #[.pointer (some ⟨bf, 0, none⟩), .agg #[.int .i64 x.op, .int .i64 x.dst, .int .i64 x.src, .int .i64 x.off, .int .i64 x.imm]] ((bf, .cells 101 90 (vaRow V)) :: H) (fun v H' => v = .tuple #[.bool (jumpV V x).1, .int .i64 (jumpV V x).2] ∧ H' = (bf, .cells 101 90 (vaRow V)) :: H) := by
  refine L_enter (l := [.pointer (some ⟨bf, 0, none⟩), .agg #[.int .i64 x.op, .int .i64 x.dst, .int .i64 x.src, .int .i64 x.off, .int .i64 x.imm]]) Tryd.func71 rfl Tryd.ntmps71 rfl rfl ?_
  refine W_sr ?_
  refine W_box rfl rfl rfl (fun b3 => ?_)
  refine W_assign rfl rfl ?_
  refine W_assign rfl rfl ?_
  refine W_nil ?_
  refine W_seq ?_
  refine W_sr ?_
  refine W_move rfl rfl ?_
  refine W_x (X_ptrNil rfl rfl ty81) (fun _ h => by cases h) rfl ?_
  refine W_nil ?_
  refine W_condF rfl rfl ?_
  refine W_skip ?_
  refine W_seq ?_
  refine W_sr ?_
  refine W_loadB rfl ty59 rfl zM rfl zF rfl ?_
  refine W_callp (.cons rfl .nil) Tryd.call32 rfl hT (isaChk_pure _) ?_
  refine W_assign rfl rfl ?_
  refine W_nil ?_
  refine W_sr ?_
  refine W_move rfl rfl ?_
  refine W_bin rfl rfl b_neq rfl ?_
  refine W_nil ?_
  refine W_condS rfl (fun c0 => ?_) (fun c0 => ?_)
  · simp only [cond_true, cond_false, Bool.and_eq_true, Bool.or_eq_true, Bool.and_eq_false_iff, Bool.or_eq_false_iff, decide_eq_true_eq, decide_eq_false_iff_not, Bool.not_eq_true', Bool.not_eq_false', ne_eq, Decidable.not_not] at c0
    refine W_sr ?_
    refine W_move rfl rfl ?_
    refine W_assign rfl rfl ?_
    refine W_assign rfl rfl ?_
    refine W_nil ?_
    refine W_ret2m (H2 := (bf, .cells 101 90 (vaRow V)) :: H) Tryd.results71 rfl rfl (.nil _) zH ?_
    unfold jumpV
    rw [if_pos c0]
    exact ⟨rfl, rfl⟩
  · simp only [cond_true, cond_false, Bool.and_eq_true, Bool.or_eq_true, Bool.and_eq_false_iff, Bool.or_eq_false_iff, decide_eq_true_eq, decide_eq_false_iff_not, Bool.not_eq_true', Bool.not_eq_false', ne_eq, Decidable.not_not] at c0
    refine W_skip ?_
    refine W_sr ?_
    refine W_move rfl rfl ?_
    refine W_loadB rfl ty59 rfl zM rfl zF rfl ?_
    refine W_call (.cons rfl (.cons rfl .nil)) Tryd.call82 rfl ((operands_L (H := (b3, .cells 59 5 [.int .i64 x.op, .int .i64 x.dst, .int .i64 x.src, .int .i64 x.off, .int .i64 x.imm]) :: H) hV (chk_in (by simpa using c0)).2.1 (chk_in (by simpa using c0)).2.2 hT).hsub zH) ?_
    rintro v H' ⟨rfl, rfl⟩
    refine W_move rfl rfl ?_
    refine W_extract rfl rfl rfl ?_
    refine W_extract rfl rfl rfl ?_
    refine W_alloc ty41 rfl rfl (fun b7 => ?_)
    refine W_alloc ty41 rfl rfl (fun b8 => ?_)
    refine W_storeA rfl rfl ty41 rfl rfl (b := b7) zM (by decide) rfl zU ?_
    refine W_storeA rfl rfl ty41 rfl rfl (b := b8) zM (by decide) rfl zU ?_
    refine W_nil ?_
    refine W_sr ?_
    refine W_fieldAddr rfl fld59_0 (by decide) rfl ?_
    refine W_load rfl ty3 rfl (Cell.own zM rfl) rfl ?_
    refine W_fieldAddr rfl fld41_3 (by decide) rfl ?_
    refine W_load rfl ty28 rfl (Cell.own zM rfl) rfl ?_
    refine W_fieldAddr rfl fld41_3 (by decide) rfl ?_
    refine W_load rfl ty28 rfl (Cell.own zM rfl) rfl ?_
    refine W_callp (.cons rfl (.cons rfl (.cons rfl .nil))) Tryd.call83 rfl hT (v := .tuple #[.bool (jumpV V x).1, .int .i64 (jumpV V x).2]) (by rw [← jumpV_eq (by simpa using c0)]; exact jumps_pure x.op _ _ hop.1 hop.2 (othr_n hW)) ?_
    refine W_extract rfl rfl rfl ?_
    refine W_extract rfl rfl rfl ?_
    refine W_assign rfl rfl ?_
    refine W_assign rfl rfl ?_
    refine W_nil ?_
    refine W_ret2m (H2 := (bf, .cells 101 90 (vaRow V)) :: H) Tryd.results71 rfl rfl (.nil _) zH ?_
    exact ⟨rfl, rfl⟩
end Go.Proofs.YtcmfldfeakmdoaaDoor
namespace Go.Proofs.YtcmfldfeakmdoaaDoor
open Go Go.Sl
attribute [local irreducible] W
def newV (l : List Va) : List Va := zeroV :: (l ++ List.replicate (17 - l.length) zeroV)
theorem newV_len {l : List Va} (h : l.length ≤ 5) : (newV l).length = 18 := by
  unfold newV
  simp only [List.length_cons, List.length_append, List.length_replicate]
  omega
theorem va_one : ∀ l : List Va, (vaRow l).all Value.oneCell' = true
  | [] => rfl
  | a :: l => by
    have e : vaRow (a :: l) = vaC a ++ vaRow l := rfl
    rw [e, List.all_append, va_one l]; rfl
theorem newV_cells : ∀ {l : List Va}, l.length ≤ 5 → spliceL (vaRow (List.replicate 18 zeroV)) 5 (vaRow l) = vaRow (newV l)
  | [], _ => rfl
  | [_], _ => rfl
  | [_, _], _ => rfl
  | [_, _, _], _ => rfl
  | [_, _, _, _], _ => rfl
  | [_, _, _, _, _], _ => rfl
  | _ :: _ :: _ :: _ :: _ :: _ :: l, h => by simp only [List.length_cons] at h; omega
set_option maxHeartbeats 1000000 in
theorem New_L {w0 : World} {H : Heap} {l : List Va} {ad : Option Addr} {cap : Nat} (hl : l.length ≤ 5) (hrow : Holds w0 H ad (vaRow l))  : LCalls Tryd.prog w0 29 #[.slice ad l.length cap] (H) (fun v H' => ∃ bf, v = .tuple #[.pointer (some ⟨bf, 0, none⟩), .int .i64 0] ∧ H' = (bf, .cells 101 90 (vaRow (newV l))) :: H) := by
  refine L_enter (l := [.slice ad l.length cap]) Tryd.func29 rfl Tryd.ntmps29 rfl rfl ?_
  refine W_sr ?_
  refine W_assign rfl rfl ?_
  refine W_assign rfl rfl ?_
  refine W_nil ?_
  refine W_seq ?_
  refine W_sr ?_
  refine W_move rfl rfl ?_
  refine W_len rfl ty33 rfl rfl ?_
  refine W_bin rfl rfl b_gtr rfl ?_
  refine W_nil ?_
  refine W_condS rfl (fun c0 => ?_) (fun c0 => ?_)
  · simp only [cond_true, cond_false, Bool.and_eq_true, Bool.or_eq_true, Bool.and_eq_false_iff, Bool.or_eq_false_iff, decide_eq_true_eq, decide_eq_false_iff_not, Bool.not_eq_true', Bool.not_eq_false', ne_eq, Decidable.not_not] at c0
    refine W_sr ?_
    refine W_assign rfl rfl ?_
    refine W_assign rfl rfl ?_
    refine W_nil ?_
    refine W_ret2m (H2 := H) Tryd.results29 rfl rfl (.nil _) zH ?_
    omega
  · simp only [cond_true, cond_false, Bool.and_eq_true, Bool.or_eq_true, Bool.and_eq_false_iff, Bool.or_eq_false_iff, decide_eq_true_eq, decide_eq_false_iff_not, Bool.not_eq_true', Bool.not_eq_false', ne_eq, Decidable.not_not] at c0
    refine W_skip ?_
    refine W_sr ?_
    refine W_build ty101 pl101 .nil rfl zF rfl ?_
    refine W_box rfl rfl rfl (fun b9 => ?_)
    refine W_assign rfl rfl ?_
    refine W_nil ?_
    refine W_sr ?_
    refine W_move rfl rfl ?_
    refine W_nilCheck rfl rfl ?_
    refine W_fieldAddr rfl fld101_0 (by decide) rfl ?_
    refine W_x (X_sliceArr (l := 1) (hh := 10) rfl ty98 ty41 ⟨_, rfl⟩ rfl (by decide) (by decide) (by decide)) (fun _ h => by cases h) rfl ?_
    refine W_move rfl rfl ?_
    refine W_copy rfl rfl ty33 ty41 (kk := l.length) (by omega) (vaRow_len l) (hrow.up zH) (va_one l) zM (by rw [vaRow_len]; show 5 + l.length * 5 ≤ 90; omega) (newV_cells hl) zU rfl ?_
    refine W_nil ?_
    refine W_sr ?_
    refine W_move rfl rfl ?_
    refine W_assign rfl rfl ?_
    refine W_assign rfl rfl ?_
    refine W_nil ?_
    refine W_ret2m (H2 := (b9, .cells 101 90 (vaRow (newV l))) :: H) Tryd.results29 rfl rfl (.nil _) zH ?_
    exact ⟨b9, rfl, rfl⟩
end Go.Proofs.YtcmfldfeakmdoaaDoor
namespace Go.Proofs.YtcmfldfeakmdoaaDoor
open Go Go.Sl
attribute [local irreducible] W
theorem set_good {p : Va → Prop} {V : List Va} {i : Nat} {y : Va} (hV : ∀ v ∈ V, p v) (hy : p y) : ∀ v ∈ V.set i y, p v := fun v hv =>
  (List.mem_or_eq_of_mem_set hv).elim (hV v) (fun e => e ▸ hy)
theorem getD_good {p : Va → Prop} {V : List Va} (i : Nat) (hz : p zeroV) (hV : ∀ v ∈ V, p v) : p (V.getD i zeroV) := by
  rw [List.getD_eq_getElem?_getD]
  cases h : V[i]? with
  | none => exact hz
  | some v => exact hV v (List.mem_of_getElem? h)
theorem doV_len {V : List Va} {x : Ins} : (doV V x).1.length = V.length := by
  unfold doV sumV wrV
  repeat' split
  all_goals first | rfl | simp
end Go.Proofs.YtcmfldfeakmdoaaDoor
namespace Go.Proofs.YtcmfldfeakmdoaaDoor
open Go Go.Sl
attribute [local irreducible] W
instance : Inhabited Va := ⟨⟨false, 0, 0, 0, 0⟩⟩
end Go.Proofs.YtcmfldfeakmdoaaDoor
namespace Go.Proofs.YtcmfldfeakmdoaaDoor
open Go Go.Sl
attribute [local irreducible] W
def Ins.C (x : Ins) : List Value := [.int .i64 x.op, .int .i64 x.dst, .int .i64 x.src, .int .i64 x.off, .int .i64 x.imm]
structure Good (l : List Va) (V : List Va) : Prop where
  len : V.length = 18
  of : ∀ v ∈ V, Wd v.n ∧ (v.ref = true → v ∈ l)
theorem Good.pos {l V : List Va} (h : Good l V) : ∀ v ∈ V, 0 ≤ v.n := fun v hv => (h.of v hv).1.1
theorem wd_z : Wd 0 := ⟨by decide, by decide⟩
theorem doV_all {p : Va → Prop} {V : List Va} {x : Ins} (hn : ∀ n, Wd n → p ⟨false, 0, 0, 0, n⟩) (hw : ∀ v, p v → Wd v.n) (hV : ∀ v ∈ V, p v) : ∀ v ∈ (doV V x).1, p v := by
  have hz : p zeroV := hn 0 wd_z
  have ho : p (othr V x) := by unfold othr; split <;> first | exact getD_good _ hz hV | exact hn _ (wd_w _)
  have hr : ∀ s a, p (rdV V s a).1 := fun s a => by unfold rdV; split <;> first | exact hz | exact getD_good _ hz hV
  unfold doV
  split
  · exact hV
  split
  · unfold sumV
    split
    · exact set_good hV ho
    split
    · exact hV
    · exact set_good hV (hn _ (doS_wd _ (hw _ (getD_good _ hz hV)) (hw _ ho)))
  split
  · show ∀ v ∈ (if (rdV V true x.off).2 = 0 then V.set x.dst.toNat (rdV V true x.off).1 else V), p v
    split
    · exact set_good hV (hr _ _)
    · exact hV
  split
  · unfold wrV; split
    · exact hV
    · exact set_good hV (getD_good _ hz hV)
  · exact hV
theorem Good.do {l V : List Va} (h : Good l V) (x : Ins) : Good l (doV V x).1 :=
  ⟨doV_len.trans h.len, doV_all (p := fun v => Wd v.n ∧ (v.ref = true → v ∈ l)) (fun n hn => ⟨hn, fun h => by cases h⟩) (fun v h => h.1) h.of⟩
theorem Good.new {l : List Va} (hl : l.length ≤ 5) (hw : ∀ v ∈ l, Wd v.n) : Good l (newV l) := by
  refine ⟨newV_len hl, fun v hv => ?_⟩
  unfold newV at hv
  rcases List.mem_cons.1 hv with rfl | hv
  · exact ⟨wd_z, fun h => by cases h⟩
  rcases List.mem_append.1 hv with hv | hv
  · exact ⟨hw v hv, fun _ => hv⟩
  · obtain rfl := (List.mem_replicate.1 hv).2
    exact ⟨wd_z, fun h => by cases h⟩
theorem rd_reg {V : List Va} {k : Nat} (hk : k < 10) : rdV V false (k : Int) = (V.getD k zeroV, 0) := by
  unfold rdV
  rw [if_neg (by simp [lenS]; omega)]
  simp [baseS]
theorem rd_word {V : List Va} {k : Nat} (hk : 10 ≤ k) (h18 : k < 18) : rdV V true ((k : Int) - 10) = (V.getD k zeroV, 0) := by
  unfold rdV
  rw [if_neg (by simp [lenS]; omega)]
  simp only [baseS, if_true]
  rw [show 10 + ((k : Int) - 10).toNat = k by omega]
end Go.Proofs.YtcmfldfeakmdoaaDoor
namespace Go.Proofs.YtcmfldfeakmdoaaDoor
open Go Go.Sl
attribute [local irreducible] W
theorem rd_word' {V : List Va} {k : Nat} (hk : k < 8) : rdV V true (k : Int) = (V.getD (10 + k) zeroV, 0) := by
  have := rd_word (V := V) (k := 10 + k) (by omega) (by omega)
  rwa [show (((10 + k : Nat) : Int) - 10) = (k : Int) by omega] at this
end Go.Proofs.YtcmfldfeakmdoaaDoor
namespace Go.Script
structure St where
  kind : Int
  a : Int
  b : Int
  c : Int
  x : Int
  y : Int
  raw : List Int
deriving DecidableEq
def zeroS : St := ⟨0, 0, 0, 0, 0, 0, []⟩
def isK (k : Int) : Bool := decide (0 ≤ k) && decide (k ≤ 17)
def tabW : List (List Nat) := [[1,0,0,0,0],[1,1,0,0,0],[1,0,0,0,0],[1,0,0,0,0],[1,0,0,0,0],[1,0,0,0,0],[1,0,0,0,0],[1,1,1,0,0],[1,1,2,8,0],[1,1,0,8,8],[1,0,0,8,0],[1,0,0,8,0],[1,0,0,0,0],[1,0,0,0,0],[1,0,0,0,0],[0,0,0,0,0],[0,0,0,0,0],[1,0,0,0,0]]
def tabB : List (List Int) := [[1,255,0,0,0,0],[0,63,0,255,0,0],[0,15,0,0,0,0],[0,15,0,0,0,0],[0,15,0,0,0,0],[0,255,0,0,0,0],[0,1,0,0,0,0],[0,2,1,8,1,4],[0,15,0,63,1,256],[0,3,0,2,0,0],[0,3,0,0,0,0],[0,3,0,0,0,0],[0,3,0,0,0,0],[0,31,0,0,0,0],[0,31,0,0,0,0],[0,0,0,0,0,0],[0,0,0,0,0,0],[0,15,0,0,0,0]]
def shW (k : Int) : List Nat := if isK k then tabW.getD k.toNat [] else [0,0,0,0,0]
def shB (k : Int) : List Int := if isK k then tabB.getD k.toNat [] else [0,0,0,0,0,0]
def rawOk (k n : Int) : Bool := if k = 5 then decide (1 ≤ n) && decide (n ≤ 16) else if k = 6 then decide (8 ≤ n) && decide (n ≤ 512) && decide (n % 8 = 0) else decide (n = 0)
def u64 (z : Int) : Int := z % 18446744073709551616
def St.parts (s : St) : List Int := [u64 s.a, u64 s.b, u64 s.c, s.x, s.y]
def St.abc (s : St) : List Int := [s.a, s.b, s.c]
def badForm (w : List Nat) (p : List Int) (i : Nat) : Bool := decide (w.getD i 0 = 0) && decide (p.getD i 0 ≠ 0)
def outB (bs : List Int) (l : List Int) (i : Nat) : Bool := decide (l.getD i 0 < bs.getD (2 * i) 0) || decide (bs.getD (2 * i + 1) 0 < l.getD i 0)
def chk (s : St) : Int :=
  if isK s.kind = false then 11
  else if (List.range 5).any (badForm (shW s.kind) s.parts) then 9
  else if 0 < s.raw.length ∧ s.kind ≠ 5 ∧ s.kind ≠ 6 then 9
  else if (List.range 3).any (outB (shB s.kind) s.abc) then 2
  else if rawOk s.kind s.raw.length = false then 8
  else 0
def lowL (n : Int) : Nat → List Int
  | 0 => []
  | k + 1 => n % 256 :: lowL (n / 256) k
def numL : List Int → Int
  | [] => 0
  | b :: l => b + 256 * numL l
theorem lowL_len : ∀ (k : Nat) (n : Int), (lowL n k).length = k
  | 0, _ => rfl
  | k + 1, n => by simp [lowL, lowL_len k]
def Bytes (l : List Int) : Prop := ∀ b ∈ l, 0 ≤ b ∧ b < 256
theorem lowL_bytes : ∀ (k : Nat) (n : Int), Bytes (lowL n k)
  | 0, _ => fun _ h => by cases h
  | k + 1, n => fun b h => by
    rcases List.mem_cons.1 h with rfl | h
    · exact ⟨Int.emod_nonneg _ (by decide), Int.emod_lt_of_pos _ (by decide)⟩
    · exact lowL_bytes k _ b h
theorem numL_nonneg : ∀ {l : List Int}, Bytes l → 0 ≤ numL l
  | [], _ => Int.le_refl _
  | b :: l, h => by
    have h1 := h b List.mem_cons_self
    have h2 := numL_nonneg (l := l) (fun x hx => h x (List.mem_cons_of_mem _ hx))
    show 0 ≤ b + 256 * numL l
    omega
theorem numL_lt : ∀ {l : List Int}, Bytes l → numL l < 256 ^ l.length
  | [], _ => by decide
  | b :: l, h => by
    have h1 := h b List.mem_cons_self
    have h2 := numL_lt (l := l) (fun x hx => h x (List.mem_cons_of_mem _ hx))
    show b + 256 * numL l < 256 ^ (l.length + 1)
    rw [Int.pow_succ]
    omega
theorem low_num : ∀ {l : List Int}, Bytes l → lowL (numL l) l.length = l
  | [], _ => rfl
  | b :: l, h => by
    have h1 := h b List.mem_cons_self
    have h2 := low_num (l := l) (fun x hx => h x (List.mem_cons_of_mem _ hx))
    show (b + 256 * numL l) % 256 :: lowL ((b + 256 * numL l) / 256) l.length = b :: l
    rw [show (b + 256 * numL l) % 256 = b by omega, show (b + 256 * numL l) / 256 = numL l by omega, h2]
def sumL (w : List Nat) : Nat := w.foldl (· + ·) 0
def partsL (p : List Int) (w : List Nat) : List Int := (List.range 5).flatMap fun i => lowL (p.getD i 0) (w.getD i 0)
def encB (s : St) : List Int := partsL s.parts (shW s.kind) ++ s.raw
def enc (s : St) : List Int := s.kind :: lowL (sumL (shW s.kind) + s.raw.length : Nat) 2 ++ encB s
def takeN : List Nat → List Int → List Int
  | [], _ => []
  | w :: ws, b => numL (b.take w) :: takeN ws (b.drop w)
def i64 (z : Int) : Int := (z + 9223372036854775808) % 18446744073709551616 - 9223372036854775808
def ofN (k : Int) (n : List Int) (raw : List Int) : St := ⟨k, i64 (n.getD 0 0), i64 (n.getD 1 0), i64 (n.getD 2 0), n.getD 3 0, n.getD 4 0, raw⟩
def one (k : Int) (b : List Int) : St × Int :=
  if isK k = false then (zeroS, 11)
  else if b.length < sumL (shW k) ∨ rawOk k (b.length - sumL (shW k) : Nat) = false then (zeroS, 9)
  else
    let s := ofN k (takeN (shW k) b) (b.drop (sumL (shW k)))
    if chk s = 0 then (s, 0) else (zeroS, chk s)
end Go.Script
namespace Go.Proofs.YtcmfldfeakmdoaaDoor
open Go Go.Sl
attribute [local irreducible] W
open Go.Script (lowL numL Bytes lowL_len lowL_bytes numL_nonneg numL_lt low_num)
def byV (l : List Int) : List Value := l.map (.int .u8)
theorem byV_get {l : List Int} {i : Nat} (h : i < l.length) : (byV l)[i]? = some (.int .u8 (l.getD i 0)) := by simp [byV, List.getD, h]
theorem byV_append (a b : List Int) : byV (a ++ b) = byV a ++ byV b := by simp [byV]
theorem u8_wrap (z : Int) : IntKind.u8.wrap z = z % 256 := by simp [IntKind.wrap, IntKind.signed, IntKind.bits, IntKind.max]
theorem u64_wrap (z : Int) : IntKind.u64.wrap z = z % 18446744073709551616 := by simp [IntKind.wrap, IntKind.signed, IntKind.bits]
theorem u64_id {z : Int} (h : 0 ≤ z ∧ z ≤ 18446744073709551615) : IntKind.u64.wrap z = z := by rw [u64_wrap]; omega
theorem lowL_snoc : ∀ (i : Nat) (n : Int), lowL n (i + 1) = lowL n i ++ [(n / 256 ^ i) % 256]
  | 0, n => by simp [lowL]
  | i + 1, n => by
    show n % 256 :: lowL (n / 256) (i + 1) = (n % 256 :: lowL (n / 256) i) ++ _
    rw [lowL_snoc i (n / 256), List.cons_append]
    congr 3
    rw [Int.pow_succ, Int.mul_comm, ← Int.ediv_ediv_of_nonneg (by decide)]
theorem div_pow (n : Int) (i : Nat) : n / 256 ^ i / 256 = n / 256 ^ (i + 1) := by rw [Int.ediv_ediv_of_nonneg (Int.le_of_lt (Int.pow_pos (by decide))), Int.pow_succ]
theorem pow_bound {n : Int} (h : Wd n) (i : Nat) : Wd (n / 256 ^ i) := by
  have hp : (0 : Int) < 256 ^ i := Int.pow_pos (by decide)
  exact ⟨Int.ediv_nonneg h.1 (Int.le_of_lt hp), Int.le_trans (Int.ediv_le_self _ h.1) h.2⟩
theorem pow8 (i : Nat) : (2 : Int) ^ (8 * i) = 256 ^ i := by rw [Int.pow_mul]; rfl
theorem shr_n {n : Int} {i : Nat} (hi : i < 8) : n.fdiv (2 ^ (min (8 * (i : Int)).toNat IntKind.u64.bits)) = n / 256 ^ i := by
  rw [show min (8 * (i : Int)).toNat IntKind.u64.bits = 8 * i by simp only [IntKind.bits]; omega, pow8, Int.fdiv_eq_ediv_of_nonneg _ (Int.le_of_lt (Int.pow_pos (by decide)))]
theorem _root_.Go.Script.Bytes.drop {l : List Int} (h : Bytes l) (m : Nat) : Bytes (l.drop m) := fun b hb => h b (List.mem_of_mem_drop hb)
theorem _root_.Go.Script.Bytes.take {l : List Int} (h : Bytes l) (m : Nat) : Bytes (l.take m) := fun b hb => h b (List.mem_of_mem_take hb)
theorem _root_.Go.Script.Bytes.getD {l : List Int} (h : Bytes l) (m : Nat) : 0 ≤ l.getD m 0 ∧ l.getD m 0 < 256 := by
  by_cases hm : m < l.length
  · rw [List.getD, List.getElem?_eq_getElem hm]; exact h _ (List.getElem_mem hm)
  · rw [List.getD, List.getElem?_eq_none (by omega)]; decide
theorem numL_snoc : ∀ (l : List Int) (b : Int), numL (l ++ [b]) = numL l + 256 ^ l.length * b
  | [], b => by simp [numL]
  | a :: l, b => by
    show a + 256 * numL (l ++ [b]) = a + 256 * numL l + 256 ^ (l.length + 1) * b
    rw [numL_snoc l b, Int.pow_succ, Int.mul_add, ← Int.mul_assoc, Int.mul_comm 256 (256 ^ l.length), Int.add_assoc]
theorem take_at {l : List Int} {i : Nat} (h : i < l.length) : l.take (i + 1) = l.take i ++ [l.getD i 0] := by
  rw [List.take_add_one]; simp [List.getD, h]
theorem numL_at {l : List Int} {m : Nat} (h : m < l.length) : numL (l.drop m) = l.getD m 0 + 256 * numL (l.drop (m + 1)) := by
  rw [List.drop_eq_getElem_cons h]
  simp [numL, List.getD, h]
theorem pow_mono {a b : Nat} (h : a ≤ b) : (256 : Int) ^ a ≤ 256 ^ b := by
  have : 256 ^ a ≤ 256 ^ b := Nat.pow_le_pow_right (by decide) h
  have h2 : ((256 ^ a : Nat) : Int) ≤ ((256 ^ b : Nat) : Int) := Int.ofNat_le.2 this
  rwa [Int.natCast_pow, Int.natCast_pow] at h2
theorem numL_le {l : List Int} (h : Bytes l) {k : Nat} (hk : l.length ≤ k) : 0 ≤ numL l ∧ numL l < 256 ^ k := ⟨numL_nonneg h, Int.lt_of_lt_of_le (numL_lt h) (pow_mono hk)⟩
theorem or_high {n b : Int} {i : Nat} (hi : i < 8) (hn : 0 ≤ n ∧ n < 256 ^ i) (hb : 0 ≤ b ∧ b < 256) : bitsOf .or .u64 n (256 ^ i * b) = n + 256 ^ i * b := by
  obtain ⟨N, rfl⟩ := Int.eq_ofNat_of_zero_le hn.1
  obtain ⟨B, rfl⟩ := Int.eq_ofNat_of_zero_le hb.1
  have hN : N < 2 ^ (8 * i) := by
    have := hn.2
    rw [← pow8] at this
    have e : ((2 : Int) ^ (8 * i)) = ((2 ^ (8 * i) : Nat) : Int) := by rw [Int.natCast_pow]; rfl
    rw [e] at this; exact Int.ofNat_lt.1 this
  have hBl : B < 256 := by omega
  have hlt : 2 ^ (8 * i) * B + N < 2 ^ 64 := by
    have h1 : 2 ^ (8 * i) * B + N < 2 ^ (8 * i) * (B + 1) := by rw [Nat.mul_add]; omega
    have h2 : 2 ^ (8 * i) * (B + 1) ≤ 2 ^ (8 * i) * 256 := Nat.mul_le_mul_left _ (by omega)
    have h3 : 2 ^ (8 * i) * 256 ≤ 2 ^ 56 * 256 := Nat.mul_le_mul_right _ (Nat.pow_le_pow_right (by decide) (by omega))
    omega
  have e0 : (256 : Int) ^ i * (B : Int) = ((2 ^ (8 * i) * B : Nat) : Int) := by rw [← pow8, Int.natCast_mul, Int.natCast_pow]; rfl
  rw [e0]
  unfold bitsOf
  have e1 : (BitVec.ofInt IntKind.u64.bits (N : Int)) = BitVec.ofNat 64 N := BitVec.ofInt_natCast _ _
  have e2 : (BitVec.ofInt IntKind.u64.bits ((2 ^ (8 * i) * B : Nat) : Int)) = BitVec.ofNat 64 (2 ^ (8 * i) * B) := BitVec.ofInt_natCast _ _
  simp only [e1, e2]
  have e3 : (BitVec.ofNat 64 N ||| BitVec.ofNat 64 (2 ^ (8 * i) * B)).toNat = 2 ^ (8 * i) * B + N := by
    rw [BitVec.toNat_or, BitVec.toNat_ofNat, BitVec.toNat_ofNat, Nat.mod_eq_of_lt (by omega), Nat.mod_eq_of_lt (by omega), Nat.or_comm]
    have := Nat.shiftLeft_add_eq_or_of_lt (i := 8 * i) (b := N) hN B
    rw [Nat.shiftLeft_eq, Nat.mul_comm] at this
    exact this.symm
  show IntKind.u64.wrap (((BitVec.ofNat 64 N ||| BitVec.ofNat 64 (2 ^ (8 * i) * B)).toNat : Nat) : Int) = _
  rw [e3, u64_id ⟨by omega, by omega⟩]; omega
theorem shl_n {b : Int} {i : Nat} (hi : i < 8) (hb : 0 ≤ b ∧ b < 256) : IntKind.u64.wrap (b * 2 ^ (min (8 * (i : Int)).toNat IntKind.u64.bits)) = 256 ^ i * b := by
  rw [show min (8 * (i : Int)).toNat IntKind.u64.bits = 8 * i by simp only [IntKind.bits]; omega, pow8, Int.mul_comm]
  have h1 : (256 : Int) ^ i ≤ 256 ^ 7 := pow_mono (by omega)
  have h0 : (0 : Int) < 256 ^ i := Int.pow_pos (by decide)
  have h2 : 256 ^ i * b ≤ 256 ^ 7 * 255 := Int.mul_le_mul h1 (by omega) hb.1 (by decide)
  exact u64_id ⟨Int.mul_nonneg (Int.le_of_lt h0) hb.1, by omega⟩
def badW (a n : Int) : Prop := a < 0 ∨ n < 0 ∨ 8 < a ∨ 8 - a < n
instance (a n : Int) : Decidable (badW a n) := by unfold badW; infer_instance
theorem notBad {a n : Int} (h : ¬ badW a n) : ∃ an nn : Nat, a = an ∧ n = nn ∧ an + nn ≤ 8 := by
  unfold badW at h
  exact ⟨a.toNat, n.toNat, by omega, by omega, by omega⟩
def wOff (a : Nat) : Nat := if a = 8 then 50 else 50 + a * 5
theorem wOff_at {a n i : Nat} (h : a + n ≤ 8) (hi : i < n) : wOff a + i * 5 = (10 + a + i) * 5 := by
  unfold wOff; rw [if_neg (by omega)]; omega
theorem X_sliceArrE {P : Program} {n : Nat} {env : Env} {x : Operand} {t ty : TypeId} {b o o' len l hh s es by_ eb : Nat} {lo hi : Option Operand} {e : TypeId} {z ez : Value} {ed : TypeDesc} {C : World → Prop} (hx : opv env x = some (.pointer (some ⟨b, o, none⟩))) (ht : Ty P t (.array len e) s z by_) (he : Ty P e ed es ez eb)
    (hlo : optIdx env 0 lo l) (hhi : optIdx env len hi hh) (h1 : l ≤ hh) (h2 : hh ≤ len) (ho : o' = if l = len then o else o + l * es) : Ex P n env C (.slice t x lo hi none) ty (.slice (some ⟨b, o', none⟩) (hh - l) (len - l)) := by
  by_cases h3 : l = len
  · subst h3
    rw [if_pos rfl] at ho
    subst ho
    intro a w d pos aft g ha _
    have hb : (Instr.sliceBounds false l l (lo.map a.eval) (hi.map a.eval) none).run P w = .ok (l, hh, l) w := by
      cases lo with
      | none =>
        have hl : l = 0 := hlo
        cases hi with
        | none => have : hh = l := hhi; subst this; subst hl; simp [Instr.sliceBounds, Result.andThen]
        | some o => obtain ⟨q, hq⟩ := hhi; have : hh = l := by omega
                    subst this; subst hl; simp [Instr.sliceBounds, ha.opv hq, Instr.sliceBound, asIntOf, Result.andThen]
      | some o' =>
        obtain ⟨q', hq'⟩ := hlo
        cases hi with
        | none => have : hh = l := hhi; subst this; simp [Instr.sliceBounds, ha.opv hq', Instr.sliceBound, asIntOf, Result.andThen]
        | some o => obtain ⟨q, hq⟩ := hhi; simp [Instr.sliceBounds, ha.opv hq, ha.opv hq', Instr.sliceBound, asIntOf, h1, h2, Result.andThen]
    simp [execOp, Instr.sliceAt, ha.opv hx, ht.run, Instr.sureAddr, hb, he.size, Result.andThen]
  · rw [if_neg h3] at ho
    subst ho
    exact X_sliceArr hx ht he hlo hhi h1 h2 (by omega)
set_option maxHeartbeats 1000000 in
theorem words_bad (bf : Nat) {a n : Int} (ha : I64 a) (hn : I64 n) (hb : badW a n) : Pure Tryd.prog (fun _ => True) 64 [.pointer (some ⟨bf, 0, none⟩), .int .i64 a, .int .i64 n] (.tuple #[.slice none 0 0, .int .i64 1]) := by
  intro w0 H hT
  unfold badW at hb
  refine L_enter Tryd.func64 rfl Tryd.ntmps64 rfl rfl ?_
  refine W_sr ?_
  refine W_assign rfl rfl ?_
  refine W_assign rfl rfl ?_
  refine W_nil ?_
  refine W_seq ?_
  refine W_block ?_
  refine W_sr ?_
  refine W_move rfl rfl ?_
  refine W_x (X_ptrNil rfl rfl ty81) (fun _ h => by cases h) rfl ?_
  refine W_assign rfl rfl ?_
  refine W_nil ?_
  refine W_condF rfl rfl ?_
  refine W_sr ?_
  refine W_move rfl rfl ?_
  refine W_bin rfl rfl b_lss rfl ?_
  refine W_move rfl rfl ?_
  apply W_or
  iterate 4 exact rfl
  case h1 =>
    intro hg2
    refine W_gyes rfl rfl ?_
    refine W_move rfl rfl ?_
    refine W_gyes rfl rfl ?_
    refine W_bin rfl rfl b_lss rfl ?_
    exact W_met rfl zR
  refine W_move rfl rfl ?_
  apply W_or
  iterate 4 exact rfl
  case h1 =>
    intro hg6
    refine W_gyes rfl rfl ?_
    refine W_move rfl rfl ?_
    refine W_gyes rfl rfl ?_
    refine W_bin rfl rfl b_gtr rfl ?_
    exact W_met rfl zR
  refine W_move rfl rfl ?_
  apply W_or
  iterate 4 exact rfl
  case h1 =>
    intro hg10
    have hg := hg10
    simp only [Bool.or_eq_false_iff, decide_eq_false_iff_not] at hg
    refine W_gyes rfl rfl ?_
    refine W_move rfl rfl ?_
    refine W_gyes rfl rfl ?_
    refine W_move rfl rfl ?_
    refine W_gyes rfl rfl ?_
    refine W_bin rfl rfl (b_sub (m := 8 - a) (i64w (by omega))) rfl ?_
    refine W_gyes rfl rfl ?_
    refine W_bin rfl rfl b_gtr rfl ?_
    exact W_met rfl zR
  refine W_assign rfl rfl ?_
  refine W_nil ?_
  refine W_condT rfl (by simp; omega) ?_
  refine W_sr ?_
  refine W_assign rfl rfl ?_
  refine W_assign rfl rfl ?_
  refine W_nil ?_
  refine W_ret2m (H2 := H) Tryd.results64 rfl rfl (.nil _) zH ?_
  exact ⟨rfl, rfl⟩
set_option maxHeartbeats 1000000 in
theorem words_ok (bf : Nat) {an nn : Nat} (hb : an + nn ≤ 8) : Pure Tryd.prog (fun _ => True) 64 [.pointer (some ⟨bf, 0, none⟩), .int .i64 (an : Int), .int .i64 (nn : Int)] (.tuple #[.slice (some ⟨bf, wOff an, none⟩) nn (8 - an), .int .i64 0]) := by
  intro w0 H hT
  refine L_enter Tryd.func64 rfl Tryd.ntmps64 rfl rfl ?_
  refine W_sr ?_
  refine W_assign rfl rfl ?_
  refine W_assign rfl rfl ?_
  refine W_nil ?_
  refine W_seq ?_
  refine W_block ?_
  refine W_sr ?_
  refine W_move rfl rfl ?_
  refine W_x (X_ptrNil rfl rfl ty81) (fun _ h => by cases h) rfl ?_
  refine W_assign rfl rfl ?_
  refine W_nil ?_
  refine W_condF rfl rfl ?_
  refine W_sr ?_
  refine W_move rfl rfl ?_
  refine W_bin rfl rfl b_lss rfl ?_
  refine W_move rfl rfl ?_
  apply W_or
  iterate 4 exact rfl
  case h1 =>
    intro hg2
    refine W_gyes rfl rfl ?_
    refine W_move rfl rfl ?_
    refine W_gyes rfl rfl ?_
    refine W_bin rfl rfl b_lss rfl ?_
    exact W_met rfl zR
  refine W_move rfl rfl ?_
  apply W_or
  iterate 4 exact rfl
  case h1 =>
    intro hg6
    refine W_gyes rfl rfl ?_
    refine W_move rfl rfl ?_
    refine W_gyes rfl rfl ?_
    refine W_bin rfl rfl b_gtr rfl ?_
    exact W_met rfl zR
  refine W_move rfl rfl ?_
  apply W_or
  iterate 4 exact rfl
  case h1 =>
    intro hg10
    refine W_gyes rfl rfl ?_
    refine W_move rfl rfl ?_
    refine W_gyes rfl rfl ?_
    refine W_move rfl rfl ?_
    refine W_gyes rfl rfl ?_
    refine W_bin rfl rfl (b_sub (m := 8 - (an : Int)) (i64w (by omega))) rfl ?_
    refine W_gyes rfl rfl ?_
    refine W_bin rfl rfl b_gtr rfl ?_
    exact W_met rfl zR
  refine W_assign rfl rfl ?_
  refine W_nil ?_
  refine W_condF rfl (by simp; omega) ?_
  refine W_skip ?_
  refine W_blk ?_
  refine W_sr ?_
  refine W_move rfl rfl ?_
  refine W_nilCheck rfl rfl ?_
  refine W_fieldAddr rfl fld101_1 (by decide) rfl ?_
  refine W_move rfl rfl ?_
  refine W_move rfl rfl ?_
  refine W_move rfl rfl ?_
  refine W_bin rfl rfl (b_add (m := ((an + nn : Nat) : Int)) ((i64w (by omega)).trans (by omega))) rfl ?_
  refine W_x (X_sliceArrE (l := an) (hh := an + nn) (o' := wOff an) rfl ty99 ty41 ⟨_, rfl⟩ ⟨_, rfl⟩ (by omega) (by omega) rfl) (fun _ h => by cases h) rfl ?_
  refine W_assign rfl rfl ?_
  refine W_assign rfl rfl ?_
  refine W_nil ?_
  refine W_ret2m (H2 := H) Tryd.results64 rfl rfl (.nil _) zH ?_
  exact ⟨by rw [show an + nn - an = nn by omega], rfl⟩
end Go.Proofs.YtcmfldfeakmdoaaDoor
namespace Go.Proofs.YtcmfldfeakmdoaaDoor
open Go Go.Sl
attribute [local irreducible] W
open Go.Script (lowL numL Bytes lowL_len lowL_bytes numL_nonneg numL_lt low_num)
def wordsB (ws : List Va) : List Int := ws.flatMap fun v => lowL v.n 8
theorem wordsB_len (ws : List Va) : (wordsB ws).length = ws.length * 8 := by
  induction ws with
  | nil => rfl
  | cons v ws ih => show (lowL v.n 8 ++ wordsB ws).length = _; rw [List.length_append, lowL_len, ih, List.length_cons]; omega
theorem wordsB_snoc {V : List Va} {a i : Nat} (h : a + i < V.length) : wordsB ((V.drop a).take (i + 1)) = wordsB ((V.drop a).take i) ++ lowL (V.getD (a + i) zeroV).n 8 := by
  have e : (V.drop a).take (i + 1) = (V.drop a).take i ++ [V.getD (a + i) zeroV] := by
    rw [List.take_add_one, List.getElem?_drop, List.getElem?_eq_getElem h]
    simp [List.getD, h]
  rw [e]; simp [wordsB]
theorem any_snoc {V : List Va} {a i : Nat} (h : a + i < V.length) : ((V.drop a).take (i + 1)).any Va.ref = (((V.drop a).take i).any Va.ref || (V.getD (a + i) zeroV).ref) := by
  have e : (V.drop a).take (i + 1) = (V.drop a).take i ++ [V.getD (a + i) zeroV] := by
    rw [List.take_add_one, List.getElem?_drop, List.getElem?_eq_getElem h]
    simp [List.getD, h]
  rw [e]; simp
theorem any_more {V : List Va} {a i n : Nat} (h : a + n ≤ V.length) (hi : i < n) (hr : (V.getD (a + i) zeroV).ref = true) : ((V.drop a).take n).any Va.ref = true := by
  rw [List.any_eq_true]
  refine ⟨V.getD (a + i) zeroV, ?_, hr⟩
  have hl : a + i < V.length := by omega
  have : ((V.drop a).take n)[i]? = some (V.getD (a + i) zeroV) := by
    rw [List.getElem?_take_of_lt hi, List.getElem?_drop, List.getElem?_eq_getElem hl]
    simp [List.getD, hl]
  exact List.mem_of_getElem? this
def rdB (V : List Va) (a n : Nat) : List Int × Int := if ((V.drop (10 + a)).take n).any Va.ref then ([], 17) else (wordsB ((V.drop (10 + a)).take n), 0)
set_option maxHeartbeats 1000000 in
theorem read_L {w0 : World} {H : Heap} {bf : Nat} {V : List Va} {an nn : Nat} (hV : V.length = 18) (hb : an + nn ≤ 8)  : LCalls Tryd.prog w0 45 #[.pointer (some ⟨bf, 0, none⟩), .int .i64 (an : Int), .int .i64 (nn : Int)] ((bf, .cells 101 90 (vaRow V)) :: H) (fun v H' => ∃ sv HB, v = .tuple #[sv, .int .i64 (rdB V an nn).2] ∧ OwnS 5 1 sv (rdB V an nn).1.length (byV (rdB V an nn).1) HB ∧ H' = HB ++ (bf, .cells 101 90 (vaRow V)) :: H) := by
  refine L_enter (l := [.pointer (some ⟨bf, 0, none⟩), .int .i64 (an : Int), .int .i64 (nn : Int)]) Tryd.func45 rfl Tryd.ntmps45 rfl rfl ?_
  refine W_sr ?_
  refine W_assign rfl rfl ?_
  refine W_assign rfl rfl ?_
  refine W_nil ?_
  refine W_sr ?_
  refine W_move rfl rfl ?_
  refine W_move rfl rfl ?_
  refine W_move rfl rfl ?_
  refine W_callp (.cons rfl (.cons rfl (.cons rfl .nil))) Tryd.call64 rfl (T := fun _ => True) trivial (words_ok _ hb) ?_
  refine W_move rfl rfl ?_
  refine W_extract rfl rfl rfl ?_
  refine W_extract rfl rfl rfl ?_
  refine W_assign rfl rfl ?_
  refine W_assign rfl rfl ?_
  refine W_nil ?_
  refine W_seq ?_
  refine W_sr ?_
  refine W_move rfl rfl ?_
  refine W_bin rfl rfl b_neq rfl ?_
  refine W_nil ?_
  refine W_condF rfl rfl ?_
  refine W_skip ?_
  refine W_sr ?_
  refine W_assign rfl rfl ?_
  refine W_nil ?_
  refine W_seq ?_
  refine W_sr ?_
  refine W_move rfl rfl ?_
  refine W_len rfl ty33 rfl rfl ?_
  refine W_move rfl rfl ?_
  refine W_nil ?_
  refine W_block ?_
  refine W_loopC (X := (Nat × Value × Heap)) [(24, _), (25, _)] (fun (x : (Nat × Value × Heap)) => [(10, x.2.1), (26, .int .i64 (x.1 : Int))]) (fun _ => _) (fun (x : (Nat × Value × Heap)) => x.2.2 ++ ((bf, .cells 101 90 (vaRow V)) :: H)) (fun (x : (Nat × Value × Heap)) => x.1 ≤ nn ∧ ((V.drop (10 + an)).take (x.1)).any Va.ref = false ∧ OwnS 5 1 x.2.1 (x.1 * 8) (byV (wordsB ((V.drop (10 + an)).take (x.1)))) x.2.2) (fun (x : (Nat × Value × Heap)) => nn - x.1) (0, .slice none 0 0, []) ⟨Nat.zero_le _, by rw [List.take_zero]; rfl, by rw [List.take_zero, Nat.zero_mul]; exact .nil⟩ (sub_cons rfl (sub_cons rfl (sub_nil _))) (sub_cons rfl (sub_cons rfl (sub_nil _))) rfl zH ?_
  rintro ⟨i, xv, XB⟩ ⟨hi, hno, hX⟩
  dsimp only at hi hno hX ⊢
  simp only [List.cons_append, List.nil_append]
  refine W_sr ?_
  refine W_bin rfl rfl b_lss rfl ?_
  refine W_nil ?_
  refine W_seq ?_
  refine W_condPS (p := (i : Int) < (nn : Int)) rfl (by simp) (fun c0 => ?_) (fun c0 => ?_)
  · skip
    refine W_skip ?_
    refine W_seq ?_
    refine W_block ?_
    refine W_sr ?_
    refine W_indexAddr (j := i) rfl rfl ty33 ty41 (by first | rfl | omega) (by first | decide | omega | simp) rfl rfl ?_
    refine W_loadB (vs := vaC (V.getD (10 + an + i) zeroV)) rfl ty41 rfl (b := bf) zM (by rw [vaRow_len, wOff_at hb (by omega), Nat.ble_eq]; omega) (by rw [wOff_at hb (by omega)]; exact va_at (getV hV (i := 10 + an + i) (by omega))) rfl ?_
    refine W_alloc ty41 rfl rfl (fun b12 => ?_)
    refine W_storeA (l' := vaC (V.getD (10 + an + i) zeroV)) rfl rfl ty41 rfl rfl (b := b12) zM (by exact Nat.le_refl 5) rfl zU ?_
    refine W_nil ?_
    refine W_seq ?_
    refine W_sr ?_
    refine W_fieldAddr rfl fld41_0 (by decide) rfl ?_
    refine W_load rfl ty4 rfl (Cell.own (b := b12) zM rfl) rfl ?_
    refine W_nil ?_
    refine W_condS rfl (fun c1 => ?_) (fun c1 => ?_)
    · skip
      refine W_sr ?_
      refine W_assign rfl rfl ?_
      refine W_assign rfl rfl ?_
      refine W_nil ?_
      refine W_ret2m (H2 := (bf, .cells 101 90 (vaRow V)) :: H) Tryd.results45 rfl rfl (.nil _) zH ?_
      have e : rdB V an nn = ([], 17) := if_pos (any_more (by omega) (by omega) c1)
      rw [e]
      exact ⟨_, [], rfl, .nil, rfl⟩
    · skip
      refine W_skip ?_
      refine W_sr ?_
      refine W_move rfl rfl ?_
      refine W_nil ?_
      refine W_block ?_
      refine W_loopC (X := (Nat × Value × Heap)) [(12, _), (24, _), (25, _), (26, _)] (fun (x : (Nat × Value × Heap)) => [(10, x.2.1), (32, .int .i64 (x.1 : Int))]) (fun _ => _) (fun (x : (Nat × Value × Heap)) => x.2.2 ++ ((b12, .cells 41 5 (vaC (V.getD (10 + an + i) zeroV))) :: (bf, .cells 101 90 (vaRow V)) :: H)) (fun (x : (Nat × Value × Heap)) => x.1 ≤ 8 ∧ OwnS 5 1 x.2.1 (i * 8 + x.1) (byV (wordsB ((V.drop (10 + an)).take (i))) ++ byV (lowL (V.getD (10 + an + i) zeroV).n x.1)) x.2.2) (fun (x : (Nat × Value × Heap)) => 8 - x.1) (0, xv, XB) ⟨Nat.zero_le _, by show OwnS 5 1 xv (i * 8 + 0) (byV (wordsB ((V.drop (10 + an)).take (i))) ++ []) XB; rw [List.append_nil]; exact hX⟩ (sub_cons rfl (sub_cons rfl (sub_cons rfl (sub_cons rfl (sub_nil _))))) (sub_cons rfl (sub_cons rfl (sub_nil _))) rfl zH ?_
      rintro ⟨j, yv, YB⟩ ⟨hj, hY⟩
      dsimp only at hj hY ⊢
      simp only [List.cons_append, List.nil_append]
      refine W_sr ?_
      refine W_bin rfl rfl b_lss rfl ?_
      refine W_nil ?_
      refine W_seq ?_
      refine W_condPS (p := (j : Int) < 8) rfl (by simp) (fun c2 => ?_) (fun c2 => ?_)
      · skip
        refine W_skip ?_
        refine W_seq ?_
        refine W_block ?_
        refine W_sr ?_
        refine W_move rfl rfl ?_
        refine W_assign rfl rfl ?_
        refine W_nil ?_
        refine W_region ?_
        refine W_move rfl rfl ?_
        refine W_fieldAddr rfl fld41_3 (by decide) rfl ?_
        refine W_load rfl ty28 rfl (Cell.own (b := b12) zM rfl) rfl ?_
        refine W_move rfl rfl ?_
        refine W_bin rfl rfl (b_mul (m := 8 * (j : Int)) (i64w (by omega))) rfl ?_
        refine W_bin rfl rfl (b_shr (m := (V.getD (10 + an + i) zeroV).n / 256 ^ j) (by omega) (shr_n (by omega))) rfl ?_
        refine W_conv rfl ty28 ty5 rfl rfl ?_
        rw [u8_wrap]
        refine W_buildSlice ty57 ty5 (.cons rfl rfl rfl rfl rfl .nil) rfl rfl rfl rfl rfl rfl rfl (fun b42 => ?_)
        refine W_append (news := byV [((V.getD (10 + an + i) zeroV).n / 256 ^ j) % 256]) (m := 1) (HB := YB) (H0 := (b12, .cells 41 5 (vaC (V.getD (10 + an + i) zeroV))) :: (bf, .cells 101 90 (vaRow V)) :: H) rfl rfl ty57 ty5 rfl (by decide) hY rfl (Holds.own List.mem_cons_self) rfl (by simp only [maxLen]; omega) (by omega) zH rfl (fun v' HB' hO' => ?_)
        refine W_assign rfl rfl ?_
        refine W_nil ?_
        refine W_blk ?_
        refine W_region ?_
        refine W_bin rfl rfl (b_add (m := ((j + 1 : Nat) : Int)) ((i64w (by omega)).trans (by omega))) rfl ?_
        refine W_move rfl rfl ?_
        refine W_nil ?_
        refine W_again (j + 1, v', HB') ⟨by show j + 1 ≤ 8; omega, by show OwnS 5 1 v' (i * 8 + (j + 1)) _ HB'; rw [lowL_snoc, byV_append, ← List.append_assoc]; exact hO'⟩ (by show 8 - (j + 1) < 8 - j; omega) (sub_cons rfl (sub_cons rfl (sub_cons rfl (sub_cons rfl (sub_cons rfl (sub_cons rfl (sub_nil _))))))) rfl zH
      · skip
        refine W_exit rfl ?_
        refine W_blk ?_
        refine W_region ?_
        refine W_bin rfl rfl (b_add (m := ((i + 1 : Nat) : Int)) ((i64w (by omega)).trans (by omega))) rfl ?_
        refine W_move rfl rfl ?_
        refine W_nil ?_
        refine W_again (i + 1, yv, YB) ⟨by show i + 1 ≤ nn; omega, by show ((V.drop (10 + an)).take (i + 1)).any Va.ref = false; rw [any_snoc (by omega), hno]; simpa using c1, by obtain rfl : j = 8 := (by omega); show OwnS 5 1 yv ((i + 1) * 8) (byV (wordsB ((V.drop (10 + an)).take (i + 1)))) YB; rw [wordsB_snoc (by omega), byV_append, Nat.add_mul]; exact hY⟩ (by show nn - (i + 1) < nn - i; omega) (sub_cons rfl (sub_cons rfl (sub_cons rfl (sub_cons rfl (sub_nil _))))) rfl zH
  · skip
    refine W_exit rfl ?_
    refine W_sr ?_
    refine W_move rfl rfl ?_
    refine W_assign rfl rfl ?_
    refine W_assign rfl rfl ?_
    refine W_nil ?_
    refine W_ret2m (H2 := XB ++ ((bf, .cells 101 90 (vaRow V)) :: H)) Tryd.results45 rfl rfl (.nil _) zH ?_
    obtain rfl : i = nn := by omega
    have e : rdB V an i = (wordsB ((V.drop (10 + an)).take (i)), 0) := if_neg (by rw [hno]; simp)
    rw [e]
    exact ⟨_, XB, rfl, by rw [wordsB_len, List.length_take, List.length_drop, hV]; rw [show min i (18 - (10 + an)) = i by omega]; exact hX, rfl⟩
set_option maxHeartbeats 1000000 in
theorem read_bad (bf : Nat) {a n : Int} (ha : I64 a) (hn : I64 n) (hb : badW a n) : Pure Tryd.prog (fun _ => True) 45 [.pointer (some ⟨bf, 0, none⟩), .int .i64 a, .int .i64 n] (.tuple #[.slice none 0 0, .int .i64 1]) := by
  intro w0 H hT
  refine L_enter Tryd.func45 rfl Tryd.ntmps45 rfl rfl ?_
  refine W_sr ?_
  refine W_assign rfl rfl ?_
  refine W_assign rfl rfl ?_
  refine W_nil ?_
  refine W_sr ?_
  refine W_move rfl rfl ?_
  refine W_move rfl rfl ?_
  refine W_move rfl rfl ?_
  refine W_callp (.cons rfl (.cons rfl (.cons rfl .nil))) Tryd.call64 rfl (T := fun _ => True) trivial (words_bad _ ha hn hb) ?_
  refine W_move rfl rfl ?_
  refine W_extract rfl rfl rfl ?_
  refine W_extract rfl rfl rfl ?_
  refine W_assign rfl rfl ?_
  refine W_assign rfl rfl ?_
  refine W_nil ?_
  refine W_seq ?_
  refine W_sr ?_
  refine W_move rfl rfl ?_
  refine W_bin rfl rfl b_neq rfl ?_
  refine W_nil ?_
  refine W_condT rfl rfl ?_
  refine W_sr ?_
  refine W_move rfl rfl ?_
  refine W_assign rfl rfl ?_
  refine W_assign rfl rfl ?_
  refine W_nil ?_
  refine W_ret2m (H2 := H) Tryd.results45 rfl rfl (.nil _) zH ?_
  exact ⟨rfl, rfl⟩
set_option maxHeartbeats 1000000 in
theorem rread_L {w0 : World} {H : Heap} {V : List Va} {an nn : Nat} (hV : V.length = 18) (hw : ∀ v ∈ V, Wd v.n) (hb : an + nn ≤ 8)  : LCalls Tryd.prog w0 25 #[.agg (vaRow V).toArray, .int .i64 (an : Int), .int .i64 (nn : Int)] (H) (fun v H' => ∃ sv HB, v = .tuple #[sv, .int .i64 (rdB V an nn).2] ∧ OwnS 5 1 sv (rdB V an nn).1.length (byV (rdB V an nn).1) HB ∧ H' = HB ++ H) := by
  refine L_enter (l := [.agg (vaRow V).toArray, .int .i64 (an : Int), .int .i64 (nn : Int)]) Tryd.func25 rfl Tryd.ntmps25 rfl rfl ?_
  refine W_sr ?_
  refine W_box rfl rfl rfl (fun b3 => ?_)
  show W _ _ _ _ _ _ _ _ ((b3, .cells 62 (vaRow V).length (vaRow V)) :: H)
  rw [show (vaRow V).length = 90 by rw [vaRow_len, hV]]
  refine W_assign rfl rfl ?_
  refine W_assign rfl rfl ?_
  refine W_nil ?_
  refine W_seq ?_
  refine W_sr ?_
  refine W_move rfl rfl ?_
  refine W_bin rfl rfl b_lss rfl ?_
  refine W_move rfl rfl ?_
  apply W_or
  iterate 4 exact rfl
  case h1 =>
    intro hg2
    refine W_gyes rfl rfl ?_
    refine W_move rfl rfl ?_
    refine W_gyes rfl rfl ?_
    refine W_bin rfl rfl b_lss rfl ?_
    exact W_met rfl zR
  refine W_move rfl rfl ?_
  apply W_or
  iterate 4 exact rfl
  case h1 =>
    intro hg6
    refine W_gyes rfl rfl ?_
    refine W_move rfl rfl ?_
    refine W_gyes rfl rfl ?_
    refine W_bin rfl rfl b_gtr rfl ?_
    exact W_met rfl zR
  refine W_move rfl rfl ?_
  apply W_or
  iterate 4 exact rfl
  case h1 =>
    intro hg10
    refine W_gyes rfl rfl ?_
    refine W_move rfl rfl ?_
    refine W_gyes rfl rfl ?_
    refine W_move rfl rfl ?_
    refine W_gyes rfl rfl ?_
    refine W_bin rfl rfl (b_sub (m := 8 - (an : Int)) (i64w (by omega))) rfl ?_
    refine W_gyes rfl rfl ?_
    refine W_bin rfl rfl b_gtr rfl ?_
    exact W_met rfl zR
  refine W_nil ?_
  refine W_condF rfl (by simp; omega) ?_
  refine W_skip ?_
  refine W_sr ?_
  refine W_assign rfl rfl ?_
  refine W_nil ?_
  refine W_seq ?_
  refine W_sr ?_
  refine W_move rfl rfl ?_
  refine W_assign rfl rfl ?_
  refine W_nil ?_
  refine W_block ?_
  refine W_loopC (X := (Nat × Value × Heap)) [(1, _), (2, _), (3, _)] (fun (x : (Nat × Value × Heap)) => [(8, x.2.1), (9, .int .i64 ((an + x.1 : Nat) : Int))]) (fun _ => _) (fun (x : (Nat × Value × Heap)) => x.2.2 ++ ((b3, .cells 62 90 (vaRow V)) :: H)) (fun (x : (Nat × Value × Heap)) => x.1 ≤ nn ∧ ((V.drop (10 + an)).take (x.1)).any Va.ref = false ∧ OwnS 5 1 x.2.1 (x.1 * 8) (byV (wordsB ((V.drop (10 + an)).take (x.1)))) x.2.2) (fun (x : (Nat × Value × Heap)) => nn - x.1) (0, .slice none 0 0, []) ⟨Nat.zero_le _, by rw [List.take_zero]; rfl, by rw [List.take_zero, Nat.zero_mul]; exact .nil⟩ (sub_cons rfl (sub_cons rfl (sub_cons rfl (sub_nil _)))) (sub_cons rfl (sub_cons rfl (sub_nil _))) rfl (HSub.refl _) ?_
  rintro ⟨i, xv, XB⟩ ⟨hi, hno, hX⟩
  dsimp only at hi hno hX ⊢
  simp only [List.cons_append, List.nil_append]
  refine W_seq ?_
  refine W_sr ?_
  refine W_move rfl rfl ?_
  refine W_move rfl rfl ?_
  refine W_move rfl rfl ?_
  refine W_bin rfl rfl (b_add (m := ((an + nn : Nat) : Int)) ((i64w (by omega)).trans (by omega))) rfl ?_
  refine W_bin rfl rfl b_lss rfl ?_
  refine W_nil ?_
  refine W_condPS (p := i < nn) rfl (by simp) (fun c0 => ?_) (fun c0 => ?_)
  · skip
    refine W_skip ?_
    refine W_seq ?_
    refine W_block ?_
    refine W_sr ?_
    refine W_move rfl rfl ?_
    refine W_bin rfl rfl (b_add (m := ((10 + an + i : Nat) : Int)) ((i64w (by omega)).trans (by omega))) rfl ?_
    refine W_fieldAddr rfl fld62_0 (by decide) rfl ?_
    refine W_indexAddrA (j := (10 + an + i)) rfl rfl ty60 ty52 (by first | rfl | omega) (by first | decide | omega | simp) rfl rfl ?_
    refine W_loadB (vs := vaC (V.getD (10 + an + i) zeroV)) rfl ty52 rfl (b := b3) zM (by show Nat.ble _ (vaRow V).length = true; rw [vaRow_len, Nat.ble_eq]; omega) (by rw [Nat.zero_add]; exact va_at (getV hV (i := 10 + an + i) (by omega))) rfl ?_
    refine W_alloc ty52 rfl rfl (fun b10 => ?_)
    refine W_storeA (l' := vaC (V.getD (10 + an + i) zeroV)) rfl rfl ty52 rfl rfl (b := b10) zM (by exact Nat.le_refl 5) rfl zU ?_
    refine W_nil ?_
    refine W_seq ?_
    refine W_sr ?_
    refine W_fieldAddr rfl fld52_0 (by decide) rfl ?_
    refine W_load rfl ty4 rfl (Cell.own (b := b10) zM rfl) rfl ?_
    refine W_nil ?_
    refine W_condS rfl (fun c1 => ?_) (fun c1 => ?_)
    · skip
      refine W_sr ?_
      refine W_assign rfl rfl ?_
      refine W_assign rfl rfl ?_
      refine W_nil ?_
      refine W_ret2m (H2 := H) Tryd.results25 rfl rfl (.nil _) zH ?_
      have e : rdB V an nn = ([], 17) := if_pos (any_more (by omega) (by omega) c1)
      rw [e]
      exact ⟨_, [], rfl, .nil, rfl⟩
    · skip
      refine W_skip ?_
      refine W_sr ?_
      refine W_assign rfl rfl ?_
      refine W_nil ?_
      refine W_block ?_
      refine W_loopC (X := (Nat × Value × Heap)) [(1, _), (2, _), (3, _), (9, _), (10, _)] (fun (x : (Nat × Value × Heap)) => [(8, x.2.1), (11, .int .i64 (x.1 : Int))]) (fun _ => _) (fun (x : (Nat × Value × Heap)) => x.2.2 ++ ((b10, .cells 52 5 (vaC { (V.getD (10 + an + i) zeroV) with n := (V.getD (10 + an + i) zeroV).n / 256 ^ x.1 })) :: (b3, .cells 62 90 (vaRow V)) :: H)) (fun (x : (Nat × Value × Heap)) => x.1 ≤ 8 ∧ OwnS 5 1 x.2.1 (i * 8 + x.1) (byV (wordsB ((V.drop (10 + an)).take (i))) ++ byV (lowL (V.getD (10 + an + i) zeroV).n x.1)) x.2.2) (fun (x : (Nat × Value × Heap)) => 8 - x.1) (0, xv, XB) ⟨Nat.zero_le _, by show OwnS 5 1 xv (i * 8 + 0) (byV (wordsB ((V.drop (10 + an)).take (i))) ++ []) XB; rw [List.append_nil]; exact hX⟩ (sub_cons rfl (sub_cons rfl (sub_cons rfl (sub_cons rfl (sub_cons rfl (sub_nil _)))))) (sub_cons rfl (sub_cons rfl (sub_nil _))) rfl (by show HSub _ (XB ++ ((b10, .cells 52 5 (vaC { (V.getD (10 + an + i) zeroV) with n := (V.getD (10 + an + i) zeroV).n / 256 ^ 0 })) :: (b3, .cells 62 90 (vaRow V)) :: H)); rw [Int.pow_zero, Int.ediv_one]; first | exact hsubI | (repeat (first | with_reducible exact HSub.refl _ | refine HSub.cons zT ?_ | refine HSub.app zS ?_ | exact HSub.nil _ | exact HSub.refl _ | refine HSub.drop ?_ | refine HSub.dropS ?_))) ?_
      rintro ⟨j, yv, YB⟩ ⟨hj, hY⟩
      dsimp only at hj hY ⊢
      simp only [List.cons_append, List.nil_append]
      refine W_seq ?_
      refine W_sr ?_
      refine W_move rfl rfl ?_
      refine W_bin rfl rfl b_lss rfl ?_
      refine W_nil ?_
      refine W_condPS (p := (j : Int) < 8) rfl (by simp) (fun c2 => ?_) (fun c2 => ?_)
      · skip
        refine W_skip ?_
        refine W_seq ?_
        refine W_block ?_
        refine W_sr ?_
        refine W_move rfl rfl ?_
        refine W_fieldAddr rfl fld52_4 (by decide) rfl ?_
        refine W_load (v := .int .u64 ((V.getD (10 + an + i) zeroV).n / 256 ^ j)) rfl ty28 rfl (Cell.own (b := b10) zM rfl) rfl ?_
        have hp := pow_bound (hw _ (List.mem_of_getElem? (getV hV (i := 10 + an + i) (by omega)))) j
        refine W_bin rfl rfl (b_rem (by decide) (Int.tmod_eq_emod_of_nonneg hp.1)) rfl ?_
        refine W_conv rfl ty28 ty5 rfl rfl ?_
        rw [u8_wrap, Int.emod_emod_of_dvd _ (Int.dvd_refl _)]
        refine W_buildSlice ty57 ty5 (.cons rfl rfl rfl rfl rfl .nil) rfl rfl rfl rfl rfl rfl rfl (fun b52 => ?_)
        refine W_append (news := byV [((V.getD (10 + an + i) zeroV).n / 256 ^ j) % 256]) (m := 1) (HB := YB) (H0 := (b10, .cells 52 5 (vaC { (V.getD (10 + an + i) zeroV) with n := (V.getD (10 + an + i) zeroV).n / 256 ^ j })) :: (b3, .cells 62 90 (vaRow V)) :: H) rfl rfl ty57 ty5 rfl (by decide) hY rfl (Holds.own List.mem_cons_self) rfl (by simp only [maxLen]; omega) (by omega) zH rfl (fun v' HB' hO' => ?_)
        refine W_assign rfl rfl ?_
        refine W_nil ?_
        refine W_region ?_
        refine W_fieldAddr rfl fld52_4 (by decide) rfl ?_
        refine W_load (v := .int .u64 ((V.getD (10 + an + i) zeroV).n / 256 ^ j)) rfl ty28 rfl (Cell.own (b := b10) zM rfl) rfl ?_
        refine W_bin rfl rfl (b_quo (m := (V.getD (10 + an + i) zeroV).n / 256 ^ (j + 1)) (by decide) (by rw [Int.tdiv_eq_ediv_of_nonneg hp.1, div_pow]; exact u64_id (pow_bound (hw _ (List.mem_of_getElem? (getV hV (i := 10 + an + i) (by omega)))) _))) rfl ?_
        refine W_fieldAddr rfl fld52_4 (by decide) rfl ?_
        refine W_store (l' := vaC { (V.getD (10 + an + i) zeroV) with n := (V.getD (10 + an + i) zeroV).n / 256 ^ (j + 1) }) rfl rfl ty28 rfl rfl (b := b10) zM rfl rfl zU ?_
        refine W_nil ?_
        refine W_blk ?_
        refine W_region ?_
        refine W_move rfl rfl ?_
        refine W_bin rfl rfl (b_add (m := ((j + 1 : Nat) : Int)) ((i64w (by omega)).trans (by omega))) rfl ?_
        refine W_assign rfl rfl ?_
        refine W_nil ?_
        refine W_again (j + 1, v', HB') ⟨by show j + 1 ≤ 8; omega, by show OwnS 5 1 v' (i * 8 + (j + 1)) _ HB'; rw [lowL_snoc, byV_append, ← List.append_assoc]; exact hO'⟩ (by show 8 - (j + 1) < 8 - j; omega) (sub_cons rfl (sub_cons rfl (sub_cons rfl (sub_cons rfl (sub_cons rfl (sub_cons rfl (sub_cons rfl (sub_nil _)))))))) rfl zH
      · skip
        refine W_exit rfl ?_
        refine W_blk ?_
        refine W_region ?_
        refine W_move rfl rfl ?_
        refine W_bin rfl rfl (b_add (m := ((an + (i + 1) : Nat) : Int)) ((i64w (by omega)).trans (by omega))) rfl ?_
        refine W_assign rfl rfl ?_
        refine W_nil ?_
        refine W_again (i + 1, yv, YB) ⟨by show i + 1 ≤ nn; omega, by show ((V.drop (10 + an)).take (i + 1)).any Va.ref = false; rw [any_snoc (by omega), hno]; simpa using c1, by obtain rfl : j = 8 := (by omega); show OwnS 5 1 yv ((i + 1) * 8) (byV (wordsB ((V.drop (10 + an)).take (i + 1)))) YB; rw [wordsB_snoc (by omega), byV_append, Nat.add_mul]; exact hY⟩ (by show nn - (i + 1) < nn - i; omega) (sub_cons rfl (sub_cons rfl (sub_cons rfl (sub_cons rfl (sub_cons rfl (sub_nil _)))))) rfl zH
  · skip
    refine W_exit rfl ?_
    refine W_sr ?_
    refine W_move rfl rfl ?_
    refine W_assign rfl rfl ?_
    refine W_assign rfl rfl ?_
    refine W_nil ?_
    refine W_ret2m (H2 := XB ++ H) Tryd.results25 rfl rfl (.nil _) zH ?_
    obtain rfl : i = nn := by omega
    have e : rdB V an i = (wordsB ((V.drop (10 + an)).take (i)), 0) := if_neg (by rw [hno]; simp)
    rw [e]
    exact ⟨_, XB, rfl, by rw [wordsB_len, List.length_take, List.length_drop, hV]; rw [show min i (18 - (10 + an)) = i by omega]; exact hX, rfl⟩
set_option maxHeartbeats 1000000 in
theorem rread_bad (V : List Va) {a n : Int} (ha : I64 a) (hn : I64 n) (hb : badW a n) : Pure Tryd.prog (fun _ => True) 25 [.agg (vaRow V).toArray, .int .i64 a, .int .i64 n] (.tuple #[.slice none 0 0, .int .i64 1]) := by
  intro w0 H hT
  unfold badW at hb
  refine L_enter Tryd.func25 rfl Tryd.ntmps25 rfl rfl ?_
  refine W_sr ?_
  refine W_box rfl rfl rfl (fun b3 => ?_)
  refine W_assign rfl rfl ?_
  refine W_assign rfl rfl ?_
  refine W_nil ?_
  refine W_seq ?_
  refine W_sr ?_
  refine W_move rfl rfl ?_
  refine W_bin rfl rfl b_lss rfl ?_
  refine W_move rfl rfl ?_
  apply W_or
  iterate 4 exact rfl
  case h1 =>
    intro hg2
    refine W_gyes rfl rfl ?_
    refine W_move rfl rfl ?_
    refine W_gyes rfl rfl ?_
    refine W_bin rfl rfl b_lss rfl ?_
    exact W_met rfl zR
  refine W_move rfl rfl ?_
  apply W_or
  iterate 4 exact rfl
  case h1 =>
    intro hg6
    refine W_gyes rfl rfl ?_
    refine W_move rfl rfl ?_
    refine W_gyes rfl rfl ?_
    refine W_bin rfl rfl b_gtr rfl ?_
    exact W_met rfl zR
  refine W_move rfl rfl ?_
  apply W_or
  iterate 4 exact rfl
  case h1 =>
    intro hg10
    have hg := hg10
    simp only [Bool.or_eq_false_iff, decide_eq_false_iff_not] at hg
    refine W_gyes rfl rfl ?_
    refine W_move rfl rfl ?_
    refine W_gyes rfl rfl ?_
    refine W_move rfl rfl ?_
    refine W_gyes rfl rfl ?_
    refine W_bin rfl rfl (b_sub (m := 8 - a) (i64w (by omega))) rfl ?_
    refine W_gyes rfl rfl ?_
    refine W_bin rfl rfl b_gtr rfl ?_
    exact W_met rfl zR
  refine W_nil ?_
  refine W_condT rfl (by simp; omega) ?_
  refine W_sr ?_
  refine W_assign rfl rfl ?_
  refine W_assign rfl rfl ?_
  refine W_nil ?_
  refine W_ret2m (H2 := H) Tryd.results25 rfl rfl (.nil _) zH ?_
  exact ⟨rfl, rfl⟩
end Go.Proofs.YtcmfldfeakmdoaaDoor
