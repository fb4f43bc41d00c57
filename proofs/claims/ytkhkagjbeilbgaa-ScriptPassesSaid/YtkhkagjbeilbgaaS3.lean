/-
  Own work: contracts of functions that the statement reaches, and plain facts on what they compute; each theorem says its conditions.
-/
import Derived.Test.YtkhkagjbeilbgaaS2
set_option linter.all false
set_option linter.unusedSimpArgs false
set_option linter.unusedVariables false
namespace Go.Proofs.Ytkhkagjbeilbgaa
open Go Go.Sl
attribute [local irreducible] W
open Go.Script

theorem any5 {f : Nat → Bool} {n : Nat} : (List.range n).any f = false ↔ ∀ i, i < n → f i = false := by
  rw [← Bool.not_eq_true, List.any_eq_true]
  constructor
  · intro h i hi
    rw [← Bool.not_eq_true]; exact fun hf => h ⟨i, List.mem_range.2 hi, hf⟩
  · rintro h ⟨i, hi, hf⟩
    rw [h i (List.mem_range.1 hi)] at hf; cases hf
theorem any_at {f : Nat → Bool} {n i : Nat} (hi : i < n) (h : f i = true) : (List.range n).any f = true := List.any_eq_true.2 ⟨i, List.mem_range.2 hi, h⟩
section
variable {s : St} (hk : isK s.kind = true)
include hk
theorem chk_form {i : Nat} (hi : i < 5) (h : badForm (shW s.kind) s.parts i = true) : chk s = 9 := by
  unfold chk; rw [if_neg (by simp [hk]), if_pos (any_at hi h)]
variable (hf : ∀ i, i < 5 → badForm (shW s.kind) s.parts i = false)
include hf
theorem chk_raw (h : 0 < s.raw.length ∧ s.kind ≠ 5 ∧ s.kind ≠ 6) : chk s = 9 := by
  unfold chk; rw [if_neg (by simp [hk]), if_neg (by rw [any5.2 hf]; decide), if_pos h]
variable (hr : ¬ (0 < s.raw.length ∧ s.kind ≠ 5 ∧ s.kind ≠ 6))
include hr
theorem chk_range {i : Nat} (hi : i < 3) (h : outB (shB s.kind) s.abc i = true) : chk s = 2 := by
  unfold chk; rw [if_neg (by simp [hk]), if_neg (by rw [any5.2 hf]; decide), if_neg hr, if_pos (any_at hi h)]
variable (hb : ∀ i, i < 3 → outB (shB s.kind) s.abc i = false)
include hb
theorem chk_long (h : rawOk s.kind s.raw.length = false) : chk s = 8 := by
  unfold chk; rw [if_neg (by simp [hk]), if_neg (by rw [any5.2 hf]; decide), if_neg hr, if_neg (by rw [any5.2 hb]; decide), if_pos h]
theorem chk_ok (h : rawOk s.kind s.raw.length = true) : chk s = 0 := by
  unfold chk; rw [if_neg (by simp [hk]), if_neg (by rw [any5.2 hf]; decide), if_neg hr, if_neg (by rw [any5.2 hb]; decide), if_neg (by simp [h])]
end
theorem len5 {l : List Nat} (h : l.length = 5) : ∃ a0 a1 a2 a3 a4, l = [a0, a1, a2, a3, a4] := by
  match l, h with
  | [a0, a1, a2, a3, a4], _ => exact ⟨_, _, _, _, _, rfl⟩
theorem len6 {l : List Int} (h : l.length = 6) : ∃ a0 a1 a2 a3 a4 a5, l = [a0, a1, a2, a3, a4, a5] := by
  match l, h with
  | [a0, a1, a2, a3, a4, a5], _ => exact ⟨_, _, _, _, _, _, rfl⟩
set_option maxHeartbeats 4000000 in
theorem check_pure (s : St) (ad : Option Addr) (cap : Nat) : Pure Try.prog (fun _ => True) 19 [.agg (stV s (.slice ad s.raw.length cap)).toArray] (.int .i64 (chk s)) := by
  intro w0 H hT
  refine L_enter Try.func19 rfl Try.ntmps19 rfl rfl ?_
  refine W_sr ?_
  refine W_box rfl rfl rfl (fun b1 => ?_)
  refine W_assign rfl rfl ?_
  refine W_nil ?_
  refine W_seq ?_
  refine W_sr ?_
  refine W_fieldAddr rfl fld29_0 (by decide) rfl ?_
  refine W_load rfl ty3 rfl (Cell.own (by repeat (first | exact List.mem_cons_self | apply List.mem_cons_of_mem | apply List.mem_append_right)) rfl) rfl ?_
  refine W_callp (.cons rfl .nil) Try.call34 rfl hT (is_pure _) ?_
  refine W_not rfl rfl ?_
  refine W_nil ?_
  refine W_condS rfl (fun c0 => ?_) (fun c0 => ?_)
  · simp only [cond_true, cond_false, Bool.and_eq_true, Bool.or_eq_true, Bool.and_eq_false_iff, Bool.or_eq_false_iff, decide_eq_true_eq, decide_eq_false_iff_not, Bool.not_eq_true', Bool.not_eq_false', ne_eq, Decidable.not_not] at c0
    refine W_sr ?_
    refine W_assign rfl rfl ?_
    refine W_nil ?_
    refine W_ret1m (H2 := H) Try.results19 rfl (.nil _) (by repeat (first | exact HSub.refl _ | refine HSub.cons (by repeat (first | exact Take.here _ | apply Take.next | apply Take.app)) ?_ | refine HSub.app (by repeat (first | exact TakeS.here _ | apply TakeS.next | apply TakeS.app)) ?_ | refine HSub.drop ?_ | refine HSub.dropS ?_ | exact HSub.nil _)) ?_
    refine ⟨congrArg (Value.int .i64) (Eq.symm (by unfold chk; rw [if_pos (by simpa using c0)])), rfl⟩
  · simp only [cond_true, cond_false, Bool.and_eq_true, Bool.or_eq_true, Bool.and_eq_false_iff, Bool.or_eq_false_iff, decide_eq_true_eq, decide_eq_false_iff_not, Bool.not_eq_true', Bool.not_eq_false', ne_eq, Decidable.not_not] at c0
    refine W_skip ?_
    refine W_sr ?_
    refine W_fieldAddr rfl fld29_0 (by decide) rfl ?_
    refine W_load rfl ty3 rfl (Cell.own (by repeat (first | exact List.mem_cons_self | apply List.mem_cons_of_mem | apply List.mem_append_right)) rfl) rfl ?_
    refine W_callp (.cons rfl .nil) Try.call29 rfl hT (shape_pure _) ?_
    obtain ⟨a0, a1, a2, a3, a4, hw⟩ := len5 (shW_len s.kind)
    obtain ⟨e0, e1, e2, e3, e4, e5, he⟩ := len6 (shB_len s.kind)
    rw [hw, he]
    simp only [nats, ints, List.map_cons, List.map_nil]
    refine W_move rfl rfl ?_
    refine W_extract rfl rfl rfl ?_
    refine W_extract rfl rfl rfl ?_
    refine W_alloc ty67 rfl rfl (fun b3 => ?_)
    refine W_alloc ty70 rfl rfl (fun b4 => ?_)
    refine W_storeA rfl rfl ty67 rfl rfl (by repeat (first | exact List.mem_cons_self | apply List.mem_cons_of_mem | apply List.mem_append_right)) (Nat.le_of_ble_eq_true rfl) (by simp only [fillL, spliceL, Value.cells, List.take_zero, List.take_succ_cons, List.take_nil, List.drop_zero, List.drop_succ_cons, List.drop_nil, List.nil_append, List.cons_append, List.append_nil, List.length_cons, List.length_nil, Nat.zero_add, Nat.reduceAdd, List.toList_toArray]; rfl) (by repeat (first | exact Upd.head _ | apply Upd.tail | apply Upd.app)) ?_
    refine W_storeA rfl rfl ty70 rfl rfl (by repeat (first | exact List.mem_cons_self | apply List.mem_cons_of_mem | apply List.mem_append_right)) (Nat.le_of_ble_eq_true rfl) (by simp only [fillL, spliceL, Value.cells, List.take_zero, List.take_succ_cons, List.take_nil, List.drop_zero, List.drop_succ_cons, List.drop_nil, List.nil_append, List.cons_append, List.append_nil, List.length_cons, List.length_nil, Nat.zero_add, Nat.reduceAdd, List.toList_toArray]; rfl) (by repeat (first | exact Upd.head _ | apply Upd.tail | apply Upd.app)) ?_
    refine W_nil ?_
    refine W_seq ?_
    refine W_sr ?_
    refine W_loadB rfl ty29 rfl (by repeat (first | exact List.mem_cons_self | apply List.mem_cons_of_mem | apply List.mem_append_right)) rfl (by simp only [fillL, spliceL, Value.cells, List.take_zero, List.take_succ_cons, List.take_nil, List.drop_zero, List.drop_succ_cons, List.drop_nil, List.nil_append, List.cons_append, List.append_nil, List.length_cons, List.length_nil, Nat.zero_add, Nat.reduceAdd, List.toList_toArray]; rfl) rfl ?_
    refine W_callp (.cons rfl .nil) Try.call32 rfl hT (parts_pure s _) ?_
    refine W_move rfl rfl ?_
    refine W_nil ?_
    refine W_block ?_
    refine W_loopC (X := Nat) [(1, _), (3, _), (4, _), (20, _)] (fun (i : Nat) => [(21, .int .i64 (i : Int))]) (fun _ => _) (fun _ => _) (fun (i : Nat) => i ≤ 5 ∧ ∀ j, j < i → badForm (shW s.kind) s.parts j = false) (fun (i : Nat) => 5 - i) 0 ⟨by omega, fun j hj => by omega⟩ (sub_cons rfl (sub_cons rfl (sub_cons rfl (sub_cons rfl (sub_nil _))))) (sub_cons rfl (sub_nil _)) rfl (by repeat (first | exact HSub.refl _ | refine HSub.cons (by repeat (first | exact Take.here _ | apply Take.next | apply Take.app)) ?_ | refine HSub.app (by repeat (first | exact TakeS.here _ | apply TakeS.next | apply TakeS.app)) ?_ | refine HSub.drop ?_ | refine HSub.dropS ?_ | exact HSub.nil _)) ?_
    rintro i ⟨hi, hf⟩
    simp only [List.cons_append, List.nil_append]
    refine W_sr ?_
    refine W_bin rfl rfl b_lss rfl ?_
    refine W_nil ?_
    refine W_seq ?_
    refine W_condPS (p := (i : Int) < 5) rfl (by simp) (fun c1 => ?_) (fun c1 => ?_)
    · skip
      refine W_skip ?_
      refine W_seq ?_
      refine W_block ?_
      refine W_sr ?_
      refine W_move rfl rfl ?_
      refine W_indexA (v := .int .u64 (s.parts.getD i 0)) (j := i) rfl rfl ty74 ty27 rfl (by first | rfl | omega) (by first | decide | omega) (by rw [Nat.mul_one]; simpa using words_get (l := s.parts) (i := i) (by rw [parts_len]; omega)) rfl ?_
      refine W_assign rfl rfl ?_
      refine W_assign rfl rfl ?_
      refine W_nil ?_
      refine W_sr ?_
      refine W_move rfl rfl ?_
      refine W_indexAddrA (j := i) rfl rfl ty67 ty3 (by first | rfl | omega) (by first | decide | omega) rfl rfl ?_
      refine W_load rfl ty3 rfl (v := .int .i64 (([a0, a1, a2, a3, a4].getD i 0 : Nat) : Int)) (Cell.own (by repeat (first | exact List.mem_cons_self | apply List.mem_cons_of_mem | apply List.mem_append_right)) (by rw [Nat.zero_add, Nat.mul_one]; exact nats_get (l := [a0, a1, a2, a3, a4]) (i := i) (by show i < 5; omega))) rfl ?_
      refine W_bin rfl rfl b_eql rfl ?_
      refine W_move rfl rfl ?_
      apply W_and
      iterate 4 exact rfl
      case h1 =>
        intro hg4
        refine W_gyes rfl rfl ?_
        refine W_move rfl rfl ?_
        refine W_gyes rfl rfl ?_
        refine W_bin rfl rfl b_neq rfl ?_
        exact W_met rfl (by repeat (first | exact .refl | refine .cons rfl ?_))
      refine W_nil ?_
      refine W_condS rfl (fun c2 => ?_) (fun c2 => ?_)
      · simp only [cond_true, cond_false, Bool.and_eq_true, Bool.or_eq_true, Bool.and_eq_false_iff, Bool.or_eq_false_iff, decide_eq_true_eq, decide_eq_false_iff_not, Bool.not_eq_true', Bool.not_eq_false', ne_eq, Decidable.not_not] at c2
        refine W_sr ?_
        refine W_assign rfl rfl ?_
        refine W_nil ?_
        refine W_ret1m (H2 := H) Try.results19 rfl (.nil _) (by repeat (first | exact HSub.refl _ | refine HSub.cons (by repeat (first | exact Take.here _ | apply Take.next | apply Take.app)) ?_ | refine HSub.app (by repeat (first | exact TakeS.here _ | apply TakeS.next | apply TakeS.app)) ?_ | refine HSub.drop ?_ | refine HSub.dropS ?_ | exact HSub.nil _)) ?_
        refine ⟨congrArg (Value.int .i64) (Eq.symm (by exact chk_form (by simpa using c0) (i := i) (by omega) (by unfold badForm; rw [hw, Bool.and_eq_true, decide_eq_true_eq, decide_eq_true_eq]; exact ⟨by omega, c2.2⟩))), rfl⟩
      · simp only [cond_true, cond_false, Bool.and_eq_true, Bool.or_eq_true, Bool.and_eq_false_iff, Bool.or_eq_false_iff, decide_eq_true_eq, decide_eq_false_iff_not, Bool.not_eq_true', Bool.not_eq_false', ne_eq, Decidable.not_not] at c2
        refine W_skip ?_
        refine W_blk ?_
        refine W_region ?_
        refine W_bin rfl rfl (b_add (m := ((i + 1 : Nat) : Int)) ((i64w (by omega)).trans (by omega))) rfl ?_
        refine W_move rfl rfl ?_
        refine W_nil ?_
        refine W_again (i + 1) ⟨by omega, fun j hj => by
          rcases (show j < i ∨ j = i by omega) with h | rfl
          · exact hf j h
          · unfold badForm; rw [hw, ← Bool.not_eq_true, Bool.and_eq_true, decide_eq_true_eq, decide_eq_true_eq]; rintro ⟨h1, h2⟩; have h3 : (([a0, a1, a2, a3, a4].getD j 0 : Nat) : Int) = 0 := by omega
            simp_all⟩ (by omega) (sub_cons rfl (sub_cons rfl (sub_cons rfl (sub_cons rfl (sub_cons rfl (sub_nil _)))))) rfl (by repeat (first | exact HSub.refl _ | refine HSub.cons (by repeat (first | exact Take.here _ | apply Take.next | apply Take.app)) ?_ | refine HSub.app (by repeat (first | exact TakeS.here _ | apply TakeS.next | apply TakeS.app)) ?_ | refine HSub.drop ?_ | refine HSub.dropS ?_ | exact HSub.nil _))
    · skip
      refine W_exit rfl ?_
      refine W_seq ?_
      refine W_sr ?_
      refine W_fieldAddr rfl fld29_6 (by decide) rfl ?_
      refine W_load rfl ty22 rfl (Cell.own (by repeat (first | exact List.mem_cons_self | apply List.mem_cons_of_mem | apply List.mem_append_right)) rfl) rfl ?_
      refine W_len rfl ty22 rfl rfl ?_
      refine W_bin rfl rfl b_gtr rfl ?_
      refine W_move rfl rfl ?_
      apply W_and
      iterate 4 exact rfl
      case h1 =>
        intro hg4
        refine W_gyes rfl rfl ?_
        refine W_fieldAddr rfl fld29_0 (by decide) rfl ?_
        refine W_gyes rfl rfl ?_
        refine W_load rfl ty3 rfl (Cell.own (by repeat (first | exact List.mem_cons_self | apply List.mem_cons_of_mem | apply List.mem_append_right)) rfl) rfl ?_
        refine W_gyes rfl rfl ?_
        refine W_bin rfl rfl b_neq rfl ?_
        exact W_met rfl (by repeat (first | exact .refl | refine .cons rfl ?_))
      refine W_move rfl rfl ?_
      apply W_and
      iterate 4 exact rfl
      case h1 =>
        intro hg9
        refine W_gyes rfl rfl ?_
        refine W_fieldAddr rfl fld29_0 (by decide) rfl ?_
        refine W_gyes rfl rfl ?_
        refine W_load rfl ty3 rfl (Cell.own (by repeat (first | exact List.mem_cons_self | apply List.mem_cons_of_mem | apply List.mem_append_right)) rfl) rfl ?_
        refine W_gyes rfl rfl ?_
        refine W_bin rfl rfl b_neq rfl ?_
        exact W_met rfl (by repeat (first | exact .refl | refine .cons rfl ?_))
      refine W_nil ?_
      refine W_condS rfl (fun c2 => ?_) (fun c2 => ?_)
      · simp only [cond_true, cond_false, Bool.and_eq_true, Bool.or_eq_true, Bool.and_eq_false_iff, Bool.or_eq_false_iff, decide_eq_true_eq, decide_eq_false_iff_not, Bool.not_eq_true', Bool.not_eq_false', ne_eq, Decidable.not_not] at c2
        refine W_sr ?_
        refine W_assign rfl rfl ?_
        refine W_nil ?_
        refine W_ret1m (H2 := H) Try.results19 rfl (.nil _) (by repeat (first | exact HSub.refl _ | refine HSub.cons (by repeat (first | exact Take.here _ | apply Take.next | apply Take.app)) ?_ | refine HSub.app (by repeat (first | exact TakeS.here _ | apply TakeS.next | apply TakeS.app)) ?_ | refine HSub.drop ?_ | refine HSub.dropS ?_ | exact HSub.nil _)) ?_
        refine ⟨congrArg (Value.int .i64) (Eq.symm (by exact chk_raw (by simpa using c0) (fun j hj => hf j (by omega)) (by omega))), rfl⟩
      · simp only [cond_true, cond_false, Bool.and_eq_true, Bool.or_eq_true, Bool.and_eq_false_iff, Bool.or_eq_false_iff, decide_eq_true_eq, decide_eq_false_iff_not, Bool.not_eq_true', Bool.not_eq_false', ne_eq, Decidable.not_not] at c2
        refine W_skip ?_
        refine W_seq ?_
        refine W_sr ?_
        refine W_fieldAddr rfl fld29_1 (by decide) rfl ?_
        refine W_load rfl ty3 rfl (Cell.own (by repeat (first | exact List.mem_cons_self | apply List.mem_cons_of_mem | apply List.mem_append_right)) rfl) rfl ?_
        refine W_fieldAddr rfl fld29_2 (by decide) rfl ?_
        refine W_load rfl ty3 rfl (Cell.own (by repeat (first | exact List.mem_cons_self | apply List.mem_cons_of_mem | apply List.mem_append_right)) rfl) rfl ?_
        refine W_fieldAddr rfl fld29_3 (by decide) rfl ?_
        refine W_load rfl ty3 rfl (Cell.own (by repeat (first | exact List.mem_cons_self | apply List.mem_cons_of_mem | apply List.mem_append_right)) rfl) rfl ?_
        refine W_buildArr (l := ints s.abc) ty77 ty3 (.cons rfl rfl rfl rfl rfl (.cons rfl rfl rfl rfl rfl (.cons rfl rfl rfl rfl rfl .nil))) rfl rfl rfl ?_
        refine W_move rfl rfl ?_
        refine W_nil ?_
        refine W_block ?_
        refine W_loopC (X := Nat) [(1, _), (4, _), (54, _)] (fun (i : Nat) => [(55, .int .i64 (i : Int))]) (fun _ => _) (fun _ => _) (fun (i : Nat) => i ≤ 3 ∧ ∀ j, j < i → outB (shB s.kind) s.abc j = false) (fun (i : Nat) => 3 - i) 0 ⟨by omega, fun j hj => by omega⟩ (sub_cons rfl (sub_cons rfl (sub_cons rfl (sub_nil _)))) (sub_cons rfl (sub_nil _)) rfl (by repeat (first | exact HSub.refl _ | refine HSub.cons (by repeat (first | exact Take.here _ | apply Take.next | apply Take.app)) ?_ | refine HSub.app (by repeat (first | exact TakeS.here _ | apply TakeS.next | apply TakeS.app)) ?_ | refine HSub.drop ?_ | refine HSub.dropS ?_ | exact HSub.nil _)) ?_
        rintro i ⟨hi, hb⟩
        simp only [List.cons_append, List.nil_append]
        refine W_sr ?_
        refine W_bin rfl rfl b_lss rfl ?_
        refine W_nil ?_
        refine W_seq ?_
        refine W_condPS (p := (i : Int) < 3) rfl (by simp) (fun c3 => ?_) (fun c3 => ?_)
        · skip
          refine W_skip ?_
          refine W_seq ?_
          refine W_block ?_
          refine W_sr ?_
          refine W_move rfl rfl ?_
          refine W_indexA (v := .int .i64 (s.abc.getD i 0)) (j := i) rfl rfl ty77 ty3 rfl (by first | rfl | omega) (by first | decide | omega) (by rw [Nat.mul_one, List.getElem?_toArray]; exact ints_get (l := s.abc) (i := i) (by show i < 3; omega)) rfl ?_
          refine W_assign rfl rfl ?_
          refine W_assign rfl rfl ?_
          refine W_nil ?_
          refine W_sr ?_
          refine W_move rfl rfl ?_
          refine W_move rfl rfl ?_
          refine W_indexAddrA (j := i) rfl rfl ty70 ty69 (by first | rfl | omega) (by first | decide | omega) rfl rfl ?_
          refine W_fieldAddr rfl fld69_0 (by decide) rfl ?_
          refine W_load rfl ty3 rfl (v := .int .i64 ([e0, e1, e2, e3, e4, e5].getD (2 * i) 0)) (Cell.own (by repeat (first | exact List.mem_cons_self | apply List.mem_cons_of_mem | apply List.mem_append_right)) (by rw [show 0 + i * 2 + 0 = 2 * i by omega]; exact ints_get (l := [e0, e1, e2, e3, e4, e5]) (i := 2 * i) (by show 2 * i < 6; omega))) rfl ?_
          refine W_bin rfl rfl b_lss rfl ?_
          refine W_move rfl rfl ?_
          apply W_or
          iterate 4 exact rfl
          case h1 =>
            intro hg6
            refine W_gyes rfl rfl ?_
            refine W_move rfl rfl ?_
            refine W_gyes rfl rfl ?_
            refine W_move rfl rfl ?_
            refine W_gyes rfl rfl ?_
            refine W_indexAddrA (j := i) rfl rfl ty70 ty69 (by first | rfl | omega) (by first | decide | omega) rfl rfl ?_
            refine W_gyes rfl rfl ?_
            refine W_fieldAddr rfl fld69_1 (by decide) rfl ?_
            refine W_gyes rfl rfl ?_
            refine W_load rfl ty3 rfl (v := .int .i64 ([e0, e1, e2, e3, e4, e5].getD (2 * i + 1) 0)) (Cell.own (by repeat (first | exact List.mem_cons_self | apply List.mem_cons_of_mem | apply List.mem_append_right)) (by rw [show 0 + i * 2 + 1 = 2 * i + 1 by omega]; exact ints_get (l := [e0, e1, e2, e3, e4, e5]) (i := 2 * i + 1) (by show 2 * i + 1 < 6; omega))) rfl ?_
            refine W_gyes rfl rfl ?_
            refine W_bin rfl rfl b_gtr rfl ?_
            exact W_met rfl (by repeat (first | exact .refl | refine .cons rfl ?_))
          refine W_nil ?_
          refine W_condS rfl (fun c4 => ?_) (fun c4 => ?_)
          · simp only [cond_true, cond_false, Bool.and_eq_true, Bool.or_eq_true, Bool.and_eq_false_iff, Bool.or_eq_false_iff, decide_eq_true_eq, decide_eq_false_iff_not, Bool.not_eq_true', Bool.not_eq_false', ne_eq, Decidable.not_not] at c4
            refine W_sr ?_
            refine W_assign rfl rfl ?_
            refine W_nil ?_
            refine W_ret1m (H2 := H) Try.results19 rfl (.nil _) (by repeat (first | exact HSub.refl _ | refine HSub.cons (by repeat (first | exact Take.here _ | apply Take.next | apply Take.app)) ?_ | refine HSub.app (by repeat (first | exact TakeS.here _ | apply TakeS.next | apply TakeS.app)) ?_ | refine HSub.drop ?_ | refine HSub.dropS ?_ | exact HSub.nil _)) ?_
            refine ⟨congrArg (Value.int .i64) (Eq.symm (by exact chk_range (by simpa using c0) (fun j hj => hf j (by omega)) (by omega) (i := i) (by omega) (by unfold outB; rw [he, Bool.or_eq_true, decide_eq_true_eq, decide_eq_true_eq]; exact c4))), rfl⟩
          · simp only [cond_true, cond_false, Bool.and_eq_true, Bool.or_eq_true, Bool.and_eq_false_iff, Bool.or_eq_false_iff, decide_eq_true_eq, decide_eq_false_iff_not, Bool.not_eq_true', Bool.not_eq_false', ne_eq, Decidable.not_not] at c4
            refine W_skip ?_
            refine W_blk ?_
            refine W_region ?_
            refine W_bin rfl rfl (b_add (m := ((i + 1 : Nat) : Int)) ((i64w (by omega)).trans (by omega))) rfl ?_
            refine W_move rfl rfl ?_
            refine W_nil ?_
            refine W_again (i + 1) ⟨by omega, fun j hj => by
              rcases (show j < i ∨ j = i by omega) with h | rfl
              · exact hb j h
              · unfold outB; rw [he, ← Bool.not_eq_true, Bool.or_eq_true, decide_eq_true_eq, decide_eq_true_eq]; omega⟩ (by omega) (sub_cons rfl (sub_cons rfl (sub_cons rfl (sub_cons rfl (sub_nil _))))) rfl (by repeat (first | exact HSub.refl _ | refine HSub.cons (by repeat (first | exact Take.here _ | apply Take.next | apply Take.app)) ?_ | refine HSub.app (by repeat (first | exact TakeS.here _ | apply TakeS.next | apply TakeS.app)) ?_ | refine HSub.drop ?_ | refine HSub.dropS ?_ | exact HSub.nil _))
        · skip
          refine W_exit rfl ?_
          refine W_seq ?_
          refine W_sr ?_
          refine W_fieldAddr rfl fld29_0 (by decide) rfl ?_
          refine W_load rfl ty3 rfl (Cell.own (by repeat (first | exact List.mem_cons_self | apply List.mem_cons_of_mem | apply List.mem_append_right)) rfl) rfl ?_
          refine W_fieldAddr rfl fld29_6 (by decide) rfl ?_
          refine W_load rfl ty22 rfl (Cell.own (by repeat (first | exact List.mem_cons_self | apply List.mem_cons_of_mem | apply List.mem_append_right)) rfl) rfl ?_
          refine W_len rfl ty22 rfl rfl ?_
          refine W_callp (.cons rfl (.cons rfl .nil)) Try.call35 rfl hT (raw_pure _ _ (by omega)) ?_
          refine W_not rfl rfl ?_
          refine W_nil ?_
          refine W_condS rfl (fun c4 => ?_) (fun c4 => ?_)
          · simp only [cond_true, cond_false, Bool.and_eq_true, Bool.or_eq_true, Bool.and_eq_false_iff, Bool.or_eq_false_iff, decide_eq_true_eq, decide_eq_false_iff_not, Bool.not_eq_true', Bool.not_eq_false', ne_eq, Decidable.not_not] at c4
            refine W_sr ?_
            refine W_assign rfl rfl ?_
            refine W_nil ?_
            refine W_ret1m (H2 := H) Try.results19 rfl (.nil _) (by repeat (first | exact HSub.refl _ | refine HSub.cons (by repeat (first | exact Take.here _ | apply Take.next | apply Take.app)) ?_ | refine HSub.app (by repeat (first | exact TakeS.here _ | apply TakeS.next | apply TakeS.app)) ?_ | refine HSub.drop ?_ | refine HSub.dropS ?_ | exact HSub.nil _)) ?_
            refine ⟨congrArg (Value.int .i64) (Eq.symm (by exact chk_long (by simpa using c0) (fun j hj => hf j (by omega)) (by omega) (fun j hj => hb j (by omega)) (by simpa using c4))), rfl⟩
          · simp only [cond_true, cond_false, Bool.and_eq_true, Bool.or_eq_true, Bool.and_eq_false_iff, Bool.or_eq_false_iff, decide_eq_true_eq, decide_eq_false_iff_not, Bool.not_eq_true', Bool.not_eq_false', ne_eq, Decidable.not_not] at c4
            refine W_skip ?_
            refine W_sr ?_
            refine W_assign rfl rfl ?_
            refine W_nil ?_
            refine W_ret1m (H2 := H) Try.results19 rfl (.nil _) (by repeat (first | exact HSub.refl _ | refine HSub.cons (by repeat (first | exact Take.here _ | apply Take.next | apply Take.app)) ?_ | refine HSub.app (by repeat (first | exact TakeS.here _ | apply TakeS.next | apply TakeS.app)) ?_ | refine HSub.drop ?_ | refine HSub.dropS ?_ | exact HSub.nil _)) ?_
            refine ⟨congrArg (Value.int .i64) (Eq.symm (by exact chk_ok (by simpa using c0) (fun j hj => hf j (by omega)) (by omega) (fun j hj => hb j (by omega)) (by simpa using c4))), rfl⟩
end Go.Proofs.Ytkhkagjbeilbgaa
