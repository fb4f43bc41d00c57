/-
  Own work: contracts of functions that the statement reaches, and plain facts on what they compute; each theorem says its conditions.
-/
import Derived.Test.YtkhkagjbeilbgaaS4
set_option linter.all false
set_option linter.unusedSimpArgs false
set_option linter.unusedVariables false
namespace Go.Proofs.Ytkhkagjbeilbgaa
open Go Go.Sl
attribute [local irreducible] W
open Go.Script

def inB (s : St) : Bool := !(List.range 3).any (outB (shB s.kind) s.abc)
theorem no15 {k : Int} (hk : isK k = true) (h : ¬ k = 0 ∧ ¬ k = 1 ∧ ¬ k = 2 ∧ ¬ k = 3 ∧ ¬ k = 4 ∧ ¬ k = 5 ∧ ¬ k = 6 ∧ ¬ k = 7 ∧ ¬ k = 8 ∧ ¬ k = 9 ∧ ¬ k = 10 ∧ ¬ k = 11 ∧ ¬ k = 12 ∧ ¬ k = 13 ∧ ¬ k = 14 ∧ ¬ k = 17) : k = 15 ∨ k = 16 := by
  simp only [isK, Bool.and_eq_true, decide_eq_true_eq] at hk; omega
theorem bounds_more : ∀ n : Fin 18, (shB (n.val : Int)).getD 2 0 = (if n.val = 7 then 1 else 0) ∧ (shB (n.val : Int)).getD 4 0 = (if n.val = 7 ∨ n.val = 8 then 1 else 0) := by decide +kernel
theorem in_iff {s : St} (hk : isK s.kind = true) : inB s = true ↔ ¬ (s.a < (shB s.kind).getD 0 0 ∨ (shB s.kind).getD 1 0 < s.a ∨ s.b < 0 ∨ (shB s.kind).getD 3 0 < s.b ∨ s.c < 0 ∨ (shB s.kind).getD 5 0 < s.c) ∧ (s.kind ≠ 7 ∨ 1 ≤ s.b ∧ 1 ≤ s.c) ∧ (s.kind ≠ 8 ∨ 1 ≤ s.c) := by
  obtain ⟨n, hn⟩ := isK_nat hk
  have hm := bounds_more n
  rw [← hn] at hm
  have e7 : s.kind = 7 ↔ n.val = 7 := by omega
  have e8 : s.kind = 8 ↔ n.val = 8 := by omega
  unfold inB
  rw [show (List.range 3) = [0, 1, 2] by rfl]
  simp only [List.any_cons, List.any_nil, Bool.or_false, outB, St.abc, Nat.mul_zero, Nat.zero_add, Nat.mul_one, Nat.reduceMul, Nat.reduceAdd]
  simp only [Bool.not_eq_true', Bool.or_eq_false_iff, decide_eq_false_iff_not]
  simp only [List.getD_cons_zero, List.getD_cons_succ, hm.1, hm.2, e7, e8, ne_eq]
  by_cases h7 : n.val = 7 <;> by_cases h8 : n.val = 8 <;> simp only [h7, h8, if_true, if_false, or_true, true_or, or_false, false_or, not_true, not_false_iff, true_and, and_true] <;> omega
set_option maxHeartbeats 4000000 in
theorem within_pure (k a b c x y : Int) (raw : List Int) (rv : Value) (hk : isK k = true) : Pure Try.prog (fun _ => True) 25 [.agg (stV ⟨k, a, b, c, x, y, raw⟩ rv).toArray] (.bool (inB ⟨k, a, b, c, x, y, raw⟩)) := by
  intro w0 H hT
  refine L_enter Try.func25 rfl Try.ntmps25 rfl rfl ?_
  refine W_sr ?_
  refine W_box rfl rfl rfl (fun b1 => ?_)
  refine W_assign rfl rfl ?_
  refine W_nil ?_
  refine W_sr ?_
  refine W_assign rfl rfl ?_
  refine W_assign rfl rfl ?_
  refine W_assign rfl rfl ?_
  refine W_assign rfl rfl ?_
  refine W_nil ?_
  refine W_seq ?_
  refine W_sr ?_
  refine W_fieldAddr rfl fld33_0 (by decide) rfl ?_
  refine W_load rfl ty3 rfl (Cell.own (by repeat (first | exact List.mem_cons_self | apply List.mem_cons_of_mem | apply List.mem_append_right)) rfl) rfl ?_
  refine W_nil ?_
  refine W_block ?_
  refine W_sr ?_
  refine W_bin rfl rfl b_eql rfl ?_
  refine W_assign rfl rfl ?_
  refine W_nil ?_
  refine W_condJ (p := k = 0) [(1, .pointer (some ⟨b1, 0, none⟩)), (3, .int .i64 ((shB k).getD 0 0)), (4, .int .i64 ((shB k).getD 1 0)), (5, .int .i64 ((shB k).getD 3 0)), (6, .int .i64 ((shB k).getD 5 0))] ((b1, .cells 33 7 (stV ⟨k, a, b, c, x, y, raw⟩ rv)) :: H) rfl (by simp) (fun c0 => ?_) (fun c0 => ?_) ?_
  · skip
    refine W_region ?_
    refine W_assign rfl rfl ?_
    refine W_assign rfl rfl ?_
    refine W_nil ?_
    refine W_joined (sub_cons rfl (sub_cons (by (try dsimp only at *); first | (subst_vars; rfl) | (rcases no15 hk (by omega) with h | h <;> (subst h; rfl))) (sub_cons (by (try dsimp only at *); first | (subst_vars; rfl) | (rcases no15 hk (by omega) with h | h <;> (subst h; rfl))) (sub_cons (by (try dsimp only at *); first | (subst_vars; rfl) | (rcases no15 hk (by omega) with h | h <;> (subst h; rfl))) (sub_cons (by (try dsimp only at *); first | (subst_vars; rfl) | (rcases no15 hk (by omega) with h | h <;> (subst h; rfl))) (sub_nil _)))))) (by repeat (first | exact HSub.refl _ | refine HSub.cons (by repeat (first | exact Take.here _ | apply Take.next | apply Take.app)) ?_ | refine HSub.app (by repeat (first | exact TakeS.here _ | apply TakeS.next | apply TakeS.app)) ?_ | refine HSub.drop ?_ | refine HSub.dropS ?_ | exact HSub.nil _))
  · skip
    refine W_sr ?_
    refine W_bin rfl rfl b_eql rfl ?_
    refine W_assign rfl rfl ?_
    refine W_nil ?_
    refine W_condS rfl (fun c1 => ?_) (fun c1 => ?_)
    · simp only [cond_true, cond_false, Bool.and_eq_true, Bool.or_eq_true, Bool.and_eq_false_iff, Bool.or_eq_false_iff, decide_eq_true_eq, decide_eq_false_iff_not, Bool.not_eq_true', Bool.not_eq_false', ne_eq, Decidable.not_not] at c1
      refine W_region ?_
      refine W_assign rfl rfl ?_
      refine W_assign rfl rfl ?_
      refine W_nil ?_
      refine W_joined (sub_cons rfl (sub_cons (by (try dsimp only at *); first | (subst_vars; rfl) | (rcases no15 hk (by omega) with h | h <;> (subst h; rfl))) (sub_cons (by (try dsimp only at *); first | (subst_vars; rfl) | (rcases no15 hk (by omega) with h | h <;> (subst h; rfl))) (sub_cons (by (try dsimp only at *); first | (subst_vars; rfl) | (rcases no15 hk (by omega) with h | h <;> (subst h; rfl))) (sub_cons (by (try dsimp only at *); first | (subst_vars; rfl) | (rcases no15 hk (by omega) with h | h <;> (subst h; rfl))) (sub_nil _)))))) (by repeat (first | exact HSub.refl _ | refine HSub.cons (by repeat (first | exact Take.here _ | apply Take.next | apply Take.app)) ?_ | refine HSub.app (by repeat (first | exact TakeS.here _ | apply TakeS.next | apply TakeS.app)) ?_ | refine HSub.drop ?_ | refine HSub.dropS ?_ | exact HSub.nil _))
    · simp only [cond_true, cond_false, Bool.and_eq_true, Bool.or_eq_true, Bool.and_eq_false_iff, Bool.or_eq_false_iff, decide_eq_true_eq, decide_eq_false_iff_not, Bool.not_eq_true', Bool.not_eq_false', ne_eq, Decidable.not_not] at c1
      refine W_seq ?_
      refine W_sr ?_
      refine W_bin rfl rfl b_eql rfl ?_
      refine W_assign rfl rfl ?_
      refine W_nil ?_
      refine W_condS rfl (fun c2 => ?_) (fun c2 => ?_)
      · simp only [cond_true, cond_false, Bool.and_eq_true, Bool.or_eq_true, Bool.and_eq_false_iff, Bool.or_eq_false_iff, decide_eq_true_eq, decide_eq_false_iff_not, Bool.not_eq_true', Bool.not_eq_false', ne_eq, Decidable.not_not] at c2
        refine W_skip ?_
        refine W_condT rfl rfl ?_
        refine W_region ?_
        refine W_assign rfl rfl ?_
        refine W_nil ?_
        refine W_joined (sub_cons rfl (sub_cons (by (try dsimp only at *); first | (subst_vars; rfl) | (rcases no15 hk (by omega) with h | h <;> (subst h; rfl))) (sub_cons (by (try dsimp only at *); first | (subst_vars; rfl) | (rcases no15 hk (by omega) with h | h <;> (subst h; rfl))) (sub_cons (by (try dsimp only at *); first | (subst_vars; rfl) | (rcases no15 hk (by omega) with h | h <;> (subst h; rfl))) (sub_cons (by (try dsimp only at *); first | (subst_vars; rfl) | (rcases no15 hk (by omega) with h | h <;> (subst h; rfl))) (sub_nil _)))))) (by repeat (first | exact HSub.refl _ | refine HSub.cons (by repeat (first | exact Take.here _ | apply Take.next | apply Take.app)) ?_ | refine HSub.app (by repeat (first | exact TakeS.here _ | apply TakeS.next | apply TakeS.app)) ?_ | refine HSub.drop ?_ | refine HSub.dropS ?_ | exact HSub.nil _))
      · simp only [cond_true, cond_false, Bool.and_eq_true, Bool.or_eq_true, Bool.and_eq_false_iff, Bool.or_eq_false_iff, decide_eq_true_eq, decide_eq_false_iff_not, Bool.not_eq_true', Bool.not_eq_false', ne_eq, Decidable.not_not] at c2
        refine W_sr ?_
        refine W_bin rfl rfl b_eql rfl ?_
        refine W_assign rfl rfl ?_
        refine W_nil ?_
        refine W_condS rfl (fun c3 => ?_) (fun c3 => ?_)
        · simp only [cond_true, cond_false, Bool.and_eq_true, Bool.or_eq_true, Bool.and_eq_false_iff, Bool.or_eq_false_iff, decide_eq_true_eq, decide_eq_false_iff_not, Bool.not_eq_true', Bool.not_eq_false', ne_eq, Decidable.not_not] at c3
          refine W_skip ?_
          refine W_condT rfl rfl ?_
          refine W_region ?_
          refine W_assign rfl rfl ?_
          refine W_nil ?_
          refine W_joined (sub_cons rfl (sub_cons (by (try dsimp only at *); first | (subst_vars; rfl) | (rcases no15 hk (by omega) with h | h <;> (subst h; rfl))) (sub_cons (by (try dsimp only at *); first | (subst_vars; rfl) | (rcases no15 hk (by omega) with h | h <;> (subst h; rfl))) (sub_cons (by (try dsimp only at *); first | (subst_vars; rfl) | (rcases no15 hk (by omega) with h | h <;> (subst h; rfl))) (sub_cons (by (try dsimp only at *); first | (subst_vars; rfl) | (rcases no15 hk (by omega) with h | h <;> (subst h; rfl))) (sub_nil _)))))) (by repeat (first | exact HSub.refl _ | refine HSub.cons (by repeat (first | exact Take.here _ | apply Take.next | apply Take.app)) ?_ | refine HSub.app (by repeat (first | exact TakeS.here _ | apply TakeS.next | apply TakeS.app)) ?_ | refine HSub.drop ?_ | refine HSub.dropS ?_ | exact HSub.nil _))
        · simp only [cond_true, cond_false, Bool.and_eq_true, Bool.or_eq_true, Bool.and_eq_false_iff, Bool.or_eq_false_iff, decide_eq_true_eq, decide_eq_false_iff_not, Bool.not_eq_true', Bool.not_eq_false', ne_eq, Decidable.not_not] at c3
          refine W_sr ?_
          refine W_bin rfl rfl b_eql rfl ?_
          refine W_assign rfl rfl ?_
          refine W_nil ?_
          refine W_condS rfl (fun c4 => ?_) (fun c4 => ?_)
          · simp only [cond_true, cond_false, Bool.and_eq_true, Bool.or_eq_true, Bool.and_eq_false_iff, Bool.or_eq_false_iff, decide_eq_true_eq, decide_eq_false_iff_not, Bool.not_eq_true', Bool.not_eq_false', ne_eq, Decidable.not_not] at c4
            refine W_skip ?_
            refine W_condT rfl rfl ?_
            refine W_region ?_
            refine W_assign rfl rfl ?_
            refine W_nil ?_
            refine W_joined (sub_cons rfl (sub_cons (by (try dsimp only at *); first | (subst_vars; rfl) | (rcases no15 hk (by omega) with h | h <;> (subst h; rfl))) (sub_cons (by (try dsimp only at *); first | (subst_vars; rfl) | (rcases no15 hk (by omega) with h | h <;> (subst h; rfl))) (sub_cons (by (try dsimp only at *); first | (subst_vars; rfl) | (rcases no15 hk (by omega) with h | h <;> (subst h; rfl))) (sub_cons (by (try dsimp only at *); first | (subst_vars; rfl) | (rcases no15 hk (by omega) with h | h <;> (subst h; rfl))) (sub_nil _)))))) (by repeat (first | exact HSub.refl _ | refine HSub.cons (by repeat (first | exact Take.here _ | apply Take.next | apply Take.app)) ?_ | refine HSub.app (by repeat (first | exact TakeS.here _ | apply TakeS.next | apply TakeS.app)) ?_ | refine HSub.drop ?_ | refine HSub.dropS ?_ | exact HSub.nil _))
          · simp only [cond_true, cond_false, Bool.and_eq_true, Bool.or_eq_true, Bool.and_eq_false_iff, Bool.or_eq_false_iff, decide_eq_true_eq, decide_eq_false_iff_not, Bool.not_eq_true', Bool.not_eq_false', ne_eq, Decidable.not_not] at c4
            refine W_region ?_
            refine W_bin rfl rfl b_eql rfl ?_
            refine W_assign rfl rfl ?_
            refine W_nil ?_
            refine W_condS rfl (fun c5 => ?_) (fun c5 => ?_)
            · simp only [cond_true, cond_false, Bool.and_eq_true, Bool.or_eq_true, Bool.and_eq_false_iff, Bool.or_eq_false_iff, decide_eq_true_eq, decide_eq_false_iff_not, Bool.not_eq_true', Bool.not_eq_false', ne_eq, Decidable.not_not] at c5
              refine W_region ?_
              refine W_assign rfl rfl ?_
              refine W_nil ?_
              refine W_joined (sub_cons rfl (sub_cons (by (try dsimp only at *); first | (subst_vars; rfl) | (rcases no15 hk (by omega) with h | h <;> (subst h; rfl))) (sub_cons (by (try dsimp only at *); first | (subst_vars; rfl) | (rcases no15 hk (by omega) with h | h <;> (subst h; rfl))) (sub_cons (by (try dsimp only at *); first | (subst_vars; rfl) | (rcases no15 hk (by omega) with h | h <;> (subst h; rfl))) (sub_cons (by (try dsimp only at *); first | (subst_vars; rfl) | (rcases no15 hk (by omega) with h | h <;> (subst h; rfl))) (sub_nil _)))))) (by repeat (first | exact HSub.refl _ | refine HSub.cons (by repeat (first | exact Take.here _ | apply Take.next | apply Take.app)) ?_ | refine HSub.app (by repeat (first | exact TakeS.here _ | apply TakeS.next | apply TakeS.app)) ?_ | refine HSub.drop ?_ | refine HSub.dropS ?_ | exact HSub.nil _))
            · simp only [cond_true, cond_false, Bool.and_eq_true, Bool.or_eq_true, Bool.and_eq_false_iff, Bool.or_eq_false_iff, decide_eq_true_eq, decide_eq_false_iff_not, Bool.not_eq_true', Bool.not_eq_false', ne_eq, Decidable.not_not] at c5
              refine W_sr ?_
              refine W_bin rfl rfl b_eql rfl ?_
              refine W_assign rfl rfl ?_
              refine W_nil ?_
              refine W_condS rfl (fun c6 => ?_) (fun c6 => ?_)
              · simp only [cond_true, cond_false, Bool.and_eq_true, Bool.or_eq_true, Bool.and_eq_false_iff, Bool.or_eq_false_iff, decide_eq_true_eq, decide_eq_false_iff_not, Bool.not_eq_true', Bool.not_eq_false', ne_eq, Decidable.not_not] at c6
                refine W_region ?_
                refine W_assign rfl rfl ?_
                refine W_nil ?_
                refine W_joined (sub_cons rfl (sub_cons (by (try dsimp only at *); first | (subst_vars; rfl) | (rcases no15 hk (by omega) with h | h <;> (subst h; rfl))) (sub_cons (by (try dsimp only at *); first | (subst_vars; rfl) | (rcases no15 hk (by omega) with h | h <;> (subst h; rfl))) (sub_cons (by (try dsimp only at *); first | (subst_vars; rfl) | (rcases no15 hk (by omega) with h | h <;> (subst h; rfl))) (sub_cons (by (try dsimp only at *); first | (subst_vars; rfl) | (rcases no15 hk (by omega) with h | h <;> (subst h; rfl))) (sub_nil _)))))) (by repeat (first | exact HSub.refl _ | refine HSub.cons (by repeat (first | exact Take.here _ | apply Take.next | apply Take.app)) ?_ | refine HSub.app (by repeat (first | exact TakeS.here _ | apply TakeS.next | apply TakeS.app)) ?_ | refine HSub.drop ?_ | refine HSub.dropS ?_ | exact HSub.nil _))
              · simp only [cond_true, cond_false, Bool.and_eq_true, Bool.or_eq_true, Bool.and_eq_false_iff, Bool.or_eq_false_iff, decide_eq_true_eq, decide_eq_false_iff_not, Bool.not_eq_true', Bool.not_eq_false', ne_eq, Decidable.not_not] at c6
                refine W_sr ?_
                refine W_bin rfl rfl b_eql rfl ?_
                refine W_assign rfl rfl ?_
                refine W_nil ?_
                refine W_condS rfl (fun c7 => ?_) (fun c7 => ?_)
                · simp only [cond_true, cond_false, Bool.and_eq_true, Bool.or_eq_true, Bool.and_eq_false_iff, Bool.or_eq_false_iff, decide_eq_true_eq, decide_eq_false_iff_not, Bool.not_eq_true', Bool.not_eq_false', ne_eq, Decidable.not_not] at c7
                  refine W_region ?_
                  refine W_assign rfl rfl ?_
                  refine W_nil ?_
                  refine W_joined (sub_cons rfl (sub_cons (by (try dsimp only at *); first | (subst_vars; rfl) | (rcases no15 hk (by omega) with h | h <;> (subst h; rfl))) (sub_cons (by (try dsimp only at *); first | (subst_vars; rfl) | (rcases no15 hk (by omega) with h | h <;> (subst h; rfl))) (sub_cons (by (try dsimp only at *); first | (subst_vars; rfl) | (rcases no15 hk (by omega) with h | h <;> (subst h; rfl))) (sub_cons (by (try dsimp only at *); first | (subst_vars; rfl) | (rcases no15 hk (by omega) with h | h <;> (subst h; rfl))) (sub_nil _)))))) (by repeat (first | exact HSub.refl _ | refine HSub.cons (by repeat (first | exact Take.here _ | apply Take.next | apply Take.app)) ?_ | refine HSub.app (by repeat (first | exact TakeS.here _ | apply TakeS.next | apply TakeS.app)) ?_ | refine HSub.drop ?_ | refine HSub.dropS ?_ | exact HSub.nil _))
                · simp only [cond_true, cond_false, Bool.and_eq_true, Bool.or_eq_true, Bool.and_eq_false_iff, Bool.or_eq_false_iff, decide_eq_true_eq, decide_eq_false_iff_not, Bool.not_eq_true', Bool.not_eq_false', ne_eq, Decidable.not_not] at c7
                  refine W_sr ?_
                  refine W_bin rfl rfl b_eql rfl ?_
                  refine W_assign rfl rfl ?_
                  refine W_nil ?_
                  refine W_condS rfl (fun c8 => ?_) (fun c8 => ?_)
                  · simp only [cond_true, cond_false, Bool.and_eq_true, Bool.or_eq_true, Bool.and_eq_false_iff, Bool.or_eq_false_iff, decide_eq_true_eq, decide_eq_false_iff_not, Bool.not_eq_true', Bool.not_eq_false', ne_eq, Decidable.not_not] at c8
                    refine W_region ?_
                    refine W_assign rfl rfl ?_
                    refine W_assign rfl rfl ?_
                    refine W_assign rfl rfl ?_
                    refine W_nil ?_
                    refine W_joined (sub_cons rfl (sub_cons (by (try dsimp only at *); first | (subst_vars; rfl) | (rcases no15 hk (by omega) with h | h <;> (subst h; rfl))) (sub_cons (by (try dsimp only at *); first | (subst_vars; rfl) | (rcases no15 hk (by omega) with h | h <;> (subst h; rfl))) (sub_cons (by (try dsimp only at *); first | (subst_vars; rfl) | (rcases no15 hk (by omega) with h | h <;> (subst h; rfl))) (sub_cons (by (try dsimp only at *); first | (subst_vars; rfl) | (rcases no15 hk (by omega) with h | h <;> (subst h; rfl))) (sub_nil _)))))) (by repeat (first | exact HSub.refl _ | refine HSub.cons (by repeat (first | exact Take.here _ | apply Take.next | apply Take.app)) ?_ | refine HSub.app (by repeat (first | exact TakeS.here _ | apply TakeS.next | apply TakeS.app)) ?_ | refine HSub.drop ?_ | refine HSub.dropS ?_ | exact HSub.nil _))
                  · simp only [cond_true, cond_false, Bool.and_eq_true, Bool.or_eq_true, Bool.and_eq_false_iff, Bool.or_eq_false_iff, decide_eq_true_eq, decide_eq_false_iff_not, Bool.not_eq_true', Bool.not_eq_false', ne_eq, Decidable.not_not] at c8
                    refine W_sr ?_
                    refine W_bin rfl rfl b_eql rfl ?_
                    refine W_assign rfl rfl ?_
                    refine W_nil ?_
                    refine W_condS rfl (fun c9 => ?_) (fun c9 => ?_)
                    · simp only [cond_true, cond_false, Bool.and_eq_true, Bool.or_eq_true, Bool.and_eq_false_iff, Bool.or_eq_false_iff, decide_eq_true_eq, decide_eq_false_iff_not, Bool.not_eq_true', Bool.not_eq_false', ne_eq, Decidable.not_not] at c9
                      refine W_region ?_
                      refine W_assign rfl rfl ?_
                      refine W_assign rfl rfl ?_
                      refine W_assign rfl rfl ?_
                      refine W_nil ?_
                      refine W_joined (sub_cons rfl (sub_cons (by (try dsimp only at *); first | (subst_vars; rfl) | (rcases no15 hk (by omega) with h | h <;> (subst h; rfl))) (sub_cons (by (try dsimp only at *); first | (subst_vars; rfl) | (rcases no15 hk (by omega) with h | h <;> (subst h; rfl))) (sub_cons (by (try dsimp only at *); first | (subst_vars; rfl) | (rcases no15 hk (by omega) with h | h <;> (subst h; rfl))) (sub_cons (by (try dsimp only at *); first | (subst_vars; rfl) | (rcases no15 hk (by omega) with h | h <;> (subst h; rfl))) (sub_nil _)))))) (by repeat (first | exact HSub.refl _ | refine HSub.cons (by repeat (first | exact Take.here _ | apply Take.next | apply Take.app)) ?_ | refine HSub.app (by repeat (first | exact TakeS.here _ | apply TakeS.next | apply TakeS.app)) ?_ | refine HSub.drop ?_ | refine HSub.dropS ?_ | exact HSub.nil _))
                    · simp only [cond_true, cond_false, Bool.and_eq_true, Bool.or_eq_true, Bool.and_eq_false_iff, Bool.or_eq_false_iff, decide_eq_true_eq, decide_eq_false_iff_not, Bool.not_eq_true', Bool.not_eq_false', ne_eq, Decidable.not_not] at c9
                      refine W_sr ?_
                      refine W_bin rfl rfl b_eql rfl ?_
                      refine W_assign rfl rfl ?_
                      refine W_nil ?_
                      refine W_condS rfl (fun c10 => ?_) (fun c10 => ?_)
                      · simp only [cond_true, cond_false, Bool.and_eq_true, Bool.or_eq_true, Bool.and_eq_false_iff, Bool.or_eq_false_iff, decide_eq_true_eq, decide_eq_false_iff_not, Bool.not_eq_true', Bool.not_eq_false', ne_eq, Decidable.not_not] at c10
                        refine W_region ?_
                        refine W_assign rfl rfl ?_
                        refine W_assign rfl rfl ?_
                        refine W_nil ?_
                        refine W_joined (sub_cons rfl (sub_cons (by (try dsimp only at *); first | (subst_vars; rfl) | (rcases no15 hk (by omega) with h | h <;> (subst h; rfl))) (sub_cons (by (try dsimp only at *); first | (subst_vars; rfl) | (rcases no15 hk (by omega) with h | h <;> (subst h; rfl))) (sub_cons (by (try dsimp only at *); first | (subst_vars; rfl) | (rcases no15 hk (by omega) with h | h <;> (subst h; rfl))) (sub_cons (by (try dsimp only at *); first | (subst_vars; rfl) | (rcases no15 hk (by omega) with h | h <;> (subst h; rfl))) (sub_nil _)))))) (by repeat (first | exact HSub.refl _ | refine HSub.cons (by repeat (first | exact Take.here _ | apply Take.next | apply Take.app)) ?_ | refine HSub.app (by repeat (first | exact TakeS.here _ | apply TakeS.next | apply TakeS.app)) ?_ | refine HSub.drop ?_ | refine HSub.dropS ?_ | exact HSub.nil _))
                      · simp only [cond_true, cond_false, Bool.and_eq_true, Bool.or_eq_true, Bool.and_eq_false_iff, Bool.or_eq_false_iff, decide_eq_true_eq, decide_eq_false_iff_not, Bool.not_eq_true', Bool.not_eq_false', ne_eq, Decidable.not_not] at c10
                        refine W_seq ?_
                        refine W_sr ?_
                        refine W_bin rfl rfl b_eql rfl ?_
                        refine W_assign rfl rfl ?_
                        refine W_nil ?_
                        refine W_condS rfl (fun c11 => ?_) (fun c11 => ?_)
                        · simp only [cond_true, cond_false, Bool.and_eq_true, Bool.or_eq_true, Bool.and_eq_false_iff, Bool.or_eq_false_iff, decide_eq_true_eq, decide_eq_false_iff_not, Bool.not_eq_true', Bool.not_eq_false', ne_eq, Decidable.not_not] at c11
                          refine W_skip ?_
                          refine W_condT rfl rfl ?_
                          refine W_region ?_
                          refine W_assign rfl rfl ?_
                          refine W_nil ?_
                          refine W_joined (sub_cons rfl (sub_cons (by (try dsimp only at *); first | (subst_vars; rfl) | (rcases no15 hk (by omega) with h | h <;> (subst h; rfl))) (sub_cons (by (try dsimp only at *); first | (subst_vars; rfl) | (rcases no15 hk (by omega) with h | h <;> (subst h; rfl))) (sub_cons (by (try dsimp only at *); first | (subst_vars; rfl) | (rcases no15 hk (by omega) with h | h <;> (subst h; rfl))) (sub_cons (by (try dsimp only at *); first | (subst_vars; rfl) | (rcases no15 hk (by omega) with h | h <;> (subst h; rfl))) (sub_nil _)))))) (by repeat (first | exact HSub.refl _ | refine HSub.cons (by repeat (first | exact Take.here _ | apply Take.next | apply Take.app)) ?_ | refine HSub.app (by repeat (first | exact TakeS.here _ | apply TakeS.next | apply TakeS.app)) ?_ | refine HSub.drop ?_ | refine HSub.dropS ?_ | exact HSub.nil _))
                        · simp only [cond_true, cond_false, Bool.and_eq_true, Bool.or_eq_true, Bool.and_eq_false_iff, Bool.or_eq_false_iff, decide_eq_true_eq, decide_eq_false_iff_not, Bool.not_eq_true', Bool.not_eq_false', ne_eq, Decidable.not_not] at c11
                          refine W_sr ?_
                          refine W_bin rfl rfl b_eql rfl ?_
                          refine W_assign rfl rfl ?_
                          refine W_nil ?_
                          refine W_condS rfl (fun c12 => ?_) (fun c12 => ?_)
                          · simp only [cond_true, cond_false, Bool.and_eq_true, Bool.or_eq_true, Bool.and_eq_false_iff, Bool.or_eq_false_iff, decide_eq_true_eq, decide_eq_false_iff_not, Bool.not_eq_true', Bool.not_eq_false', ne_eq, Decidable.not_not] at c12
                            refine W_skip ?_
                            refine W_condT rfl rfl ?_
                            refine W_region ?_
                            refine W_assign rfl rfl ?_
                            refine W_nil ?_
                            refine W_joined (sub_cons rfl (sub_cons (by (try dsimp only at *); first | (subst_vars; rfl) | (rcases no15 hk (by omega) with h | h <;> (subst h; rfl))) (sub_cons (by (try dsimp only at *); first | (subst_vars; rfl) | (rcases no15 hk (by omega) with h | h <;> (subst h; rfl))) (sub_cons (by (try dsimp only at *); first | (subst_vars; rfl) | (rcases no15 hk (by omega) with h | h <;> (subst h; rfl))) (sub_cons (by (try dsimp only at *); first | (subst_vars; rfl) | (rcases no15 hk (by omega) with h | h <;> (subst h; rfl))) (sub_nil _)))))) (by repeat (first | exact HSub.refl _ | refine HSub.cons (by repeat (first | exact Take.here _ | apply Take.next | apply Take.app)) ?_ | refine HSub.app (by repeat (first | exact TakeS.here _ | apply TakeS.next | apply TakeS.app)) ?_ | refine HSub.drop ?_ | refine HSub.dropS ?_ | exact HSub.nil _))
                          · simp only [cond_true, cond_false, Bool.and_eq_true, Bool.or_eq_true, Bool.and_eq_false_iff, Bool.or_eq_false_iff, decide_eq_true_eq, decide_eq_false_iff_not, Bool.not_eq_true', Bool.not_eq_false', ne_eq, Decidable.not_not] at c12
                            refine W_region ?_
                            refine W_bin rfl rfl b_eql rfl ?_
                            refine W_assign rfl rfl ?_
                            refine W_nil ?_
                            refine W_condS rfl (fun c13 => ?_) (fun c13 => ?_)
                            · simp only [cond_true, cond_false, Bool.and_eq_true, Bool.or_eq_true, Bool.and_eq_false_iff, Bool.or_eq_false_iff, decide_eq_true_eq, decide_eq_false_iff_not, Bool.not_eq_true', Bool.not_eq_false', ne_eq, Decidable.not_not] at c13
                              refine W_region ?_
                              refine W_assign rfl rfl ?_
                              refine W_nil ?_
                              refine W_joined (sub_cons rfl (sub_cons (by (try dsimp only at *); first | (subst_vars; rfl) | (rcases no15 hk (by omega) with h | h <;> (subst h; rfl))) (sub_cons (by (try dsimp only at *); first | (subst_vars; rfl) | (rcases no15 hk (by omega) with h | h <;> (subst h; rfl))) (sub_cons (by (try dsimp only at *); first | (subst_vars; rfl) | (rcases no15 hk (by omega) with h | h <;> (subst h; rfl))) (sub_cons (by (try dsimp only at *); first | (subst_vars; rfl) | (rcases no15 hk (by omega) with h | h <;> (subst h; rfl))) (sub_nil _)))))) (by repeat (first | exact HSub.refl _ | refine HSub.cons (by repeat (first | exact Take.here _ | apply Take.next | apply Take.app)) ?_ | refine HSub.app (by repeat (first | exact TakeS.here _ | apply TakeS.next | apply TakeS.app)) ?_ | refine HSub.drop ?_ | refine HSub.dropS ?_ | exact HSub.nil _))
                            · simp only [cond_true, cond_false, Bool.and_eq_true, Bool.or_eq_true, Bool.and_eq_false_iff, Bool.or_eq_false_iff, decide_eq_true_eq, decide_eq_false_iff_not, Bool.not_eq_true', Bool.not_eq_false', ne_eq, Decidable.not_not] at c13
                              refine W_seq ?_
                              refine W_sr ?_
                              refine W_bin rfl rfl b_eql rfl ?_
                              refine W_assign rfl rfl ?_
                              refine W_nil ?_
                              refine W_condS rfl (fun c14 => ?_) (fun c14 => ?_)
                              · simp only [cond_true, cond_false, Bool.and_eq_true, Bool.or_eq_true, Bool.and_eq_false_iff, Bool.or_eq_false_iff, decide_eq_true_eq, decide_eq_false_iff_not, Bool.not_eq_true', Bool.not_eq_false', ne_eq, Decidable.not_not] at c14
                                refine W_skip ?_
                                refine W_condT rfl rfl ?_
                                refine W_region ?_
                                refine W_assign rfl rfl ?_
                                refine W_nil ?_
                                refine W_joined (sub_cons rfl (sub_cons (by (try dsimp only at *); first | (subst_vars; rfl) | (rcases no15 hk (by omega) with h | h <;> (subst h; rfl))) (sub_cons (by (try dsimp only at *); first | (subst_vars; rfl) | (rcases no15 hk (by omega) with h | h <;> (subst h; rfl))) (sub_cons (by (try dsimp only at *); first | (subst_vars; rfl) | (rcases no15 hk (by omega) with h | h <;> (subst h; rfl))) (sub_cons (by (try dsimp only at *); first | (subst_vars; rfl) | (rcases no15 hk (by omega) with h | h <;> (subst h; rfl))) (sub_nil _)))))) (by repeat (first | exact HSub.refl _ | refine HSub.cons (by repeat (first | exact Take.here _ | apply Take.next | apply Take.app)) ?_ | refine HSub.app (by repeat (first | exact TakeS.here _ | apply TakeS.next | apply TakeS.app)) ?_ | refine HSub.drop ?_ | refine HSub.dropS ?_ | exact HSub.nil _))
                              · simp only [cond_true, cond_false, Bool.and_eq_true, Bool.or_eq_true, Bool.and_eq_false_iff, Bool.or_eq_false_iff, decide_eq_true_eq, decide_eq_false_iff_not, Bool.not_eq_true', Bool.not_eq_false', ne_eq, Decidable.not_not] at c14
                                refine W_region ?_
                                refine W_bin rfl rfl b_eql rfl ?_
                                refine W_assign rfl rfl ?_
                                refine W_nil ?_
                                refine W_condS rfl (fun c15 => ?_) (fun c15 => ?_)
                                · simp only [cond_true, cond_false, Bool.and_eq_true, Bool.or_eq_true, Bool.and_eq_false_iff, Bool.or_eq_false_iff, decide_eq_true_eq, decide_eq_false_iff_not, Bool.not_eq_true', Bool.not_eq_false', ne_eq, Decidable.not_not] at c15
                                  refine W_region ?_
                                  refine W_assign rfl rfl ?_
                                  refine W_nil ?_
                                  refine W_joined (sub_cons rfl (sub_cons (by (try dsimp only at *); first | (subst_vars; rfl) | (rcases no15 hk (by omega) with h | h <;> (subst h; rfl))) (sub_cons (by (try dsimp only at *); first | (subst_vars; rfl) | (rcases no15 hk (by omega) with h | h <;> (subst h; rfl))) (sub_cons (by (try dsimp only at *); first | (subst_vars; rfl) | (rcases no15 hk (by omega) with h | h <;> (subst h; rfl))) (sub_cons (by (try dsimp only at *); first | (subst_vars; rfl) | (rcases no15 hk (by omega) with h | h <;> (subst h; rfl))) (sub_nil _)))))) (by repeat (first | exact HSub.refl _ | refine HSub.cons (by repeat (first | exact Take.here _ | apply Take.next | apply Take.app)) ?_ | refine HSub.app (by repeat (first | exact TakeS.here _ | apply TakeS.next | apply TakeS.app)) ?_ | refine HSub.drop ?_ | refine HSub.dropS ?_ | exact HSub.nil _))
                                · simp only [cond_true, cond_false, Bool.and_eq_true, Bool.or_eq_true, Bool.and_eq_false_iff, Bool.or_eq_false_iff, decide_eq_true_eq, decide_eq_false_iff_not, Bool.not_eq_true', Bool.not_eq_false', ne_eq, Decidable.not_not] at c15
                                  refine W_skip ?_
                                  refine W_joined (sub_cons rfl (sub_cons (by (try dsimp only at *); first | (subst_vars; rfl) | (rcases no15 hk (by omega) with h | h <;> (subst h; rfl))) (sub_cons (by (try dsimp only at *); first | (subst_vars; rfl) | (rcases no15 hk (by omega) with h | h <;> (subst h; rfl))) (sub_cons (by (try dsimp only at *); first | (subst_vars; rfl) | (rcases no15 hk (by omega) with h | h <;> (subst h; rfl))) (sub_cons (by (try dsimp only at *); first | (subst_vars; rfl) | (rcases no15 hk (by omega) with h | h <;> (subst h; rfl))) (sub_nil _)))))) (by repeat (first | exact HSub.refl _ | refine HSub.cons (by repeat (first | exact Take.here _ | apply Take.next | apply Take.app)) ?_ | refine HSub.app (by repeat (first | exact TakeS.here _ | apply TakeS.next | apply TakeS.app)) ?_ | refine HSub.drop ?_ | refine HSub.dropS ?_ | exact HSub.nil _))
  skip
  refine W_blk ?_
  refine W_seq ?_
  refine W_sr ?_
  refine W_fieldAddr rfl fld33_1 (by decide) rfl ?_
  refine W_load rfl ty3 rfl (Cell.own (by repeat (first | exact List.mem_cons_self | apply List.mem_cons_of_mem | apply List.mem_append_right)) rfl) rfl ?_
  refine W_move rfl rfl ?_
  refine W_bin rfl rfl b_lss rfl ?_
  refine W_move rfl rfl ?_
  apply W_or
  iterate 4 exact rfl
  case h1 =>
    intro hg4
    refine W_gyes rfl rfl ?_
    refine W_fieldAddr rfl fld33_1 (by decide) rfl ?_
    refine W_gyes rfl rfl ?_
    refine W_load rfl ty3 rfl (Cell.own (by repeat (first | exact List.mem_cons_self | apply List.mem_cons_of_mem | apply List.mem_append_right)) rfl) rfl ?_
    refine W_gyes rfl rfl ?_
    refine W_move rfl rfl ?_
    refine W_gyes rfl rfl ?_
    refine W_bin rfl rfl b_gtr rfl ?_
    exact W_met rfl (by repeat (first | exact .refl | refine .cons rfl ?_))
  refine W_move rfl rfl ?_
  apply W_or
  iterate 4 exact rfl
  case h1 =>
    intro hg10
    refine W_gyes rfl rfl ?_
    refine W_fieldAddr rfl fld33_2 (by decide) rfl ?_
    refine W_gyes rfl rfl ?_
    refine W_load rfl ty3 rfl (Cell.own (by repeat (first | exact List.mem_cons_self | apply List.mem_cons_of_mem | apply List.mem_append_right)) rfl) rfl ?_
    refine W_gyes rfl rfl ?_
    refine W_bin rfl rfl b_lss rfl ?_
    exact W_met rfl (by repeat (first | exact .refl | refine .cons rfl ?_))
  refine W_move rfl rfl ?_
  apply W_or
  iterate 4 exact rfl
  case h1 =>
    intro hg15
    refine W_gyes rfl rfl ?_
    refine W_fieldAddr rfl fld33_2 (by decide) rfl ?_
    refine W_gyes rfl rfl ?_
    refine W_load rfl ty3 rfl (Cell.own (by repeat (first | exact List.mem_cons_self | apply List.mem_cons_of_mem | apply List.mem_append_right)) rfl) rfl ?_
    refine W_gyes rfl rfl ?_
    refine W_move rfl rfl ?_
    refine W_gyes rfl rfl ?_
    refine W_bin rfl rfl b_gtr rfl ?_
    exact W_met rfl (by repeat (first | exact .refl | refine .cons rfl ?_))
  refine W_move rfl rfl ?_
  apply W_or
  iterate 4 exact rfl
  case h1 =>
    intro hg21
    refine W_gyes rfl rfl ?_
    refine W_fieldAddr rfl fld33_3 (by decide) rfl ?_
    refine W_gyes rfl rfl ?_
    refine W_load rfl ty3 rfl (Cell.own (by repeat (first | exact List.mem_cons_self | apply List.mem_cons_of_mem | apply List.mem_append_right)) rfl) rfl ?_
    refine W_gyes rfl rfl ?_
    refine W_bin rfl rfl b_lss rfl ?_
    exact W_met rfl (by repeat (first | exact .refl | refine .cons rfl ?_))
  refine W_move rfl rfl ?_
  apply W_or
  iterate 4 exact rfl
  case h1 =>
    intro hg26
    refine W_gyes rfl rfl ?_
    refine W_fieldAddr rfl fld33_3 (by decide) rfl ?_
    refine W_gyes rfl rfl ?_
    refine W_load rfl ty3 rfl (Cell.own (by repeat (first | exact List.mem_cons_self | apply List.mem_cons_of_mem | apply List.mem_append_right)) rfl) rfl ?_
    refine W_gyes rfl rfl ?_
    refine W_move rfl rfl ?_
    refine W_gyes rfl rfl ?_
    refine W_bin rfl rfl b_gtr rfl ?_
    exact W_met rfl (by repeat (first | exact .refl | refine .cons rfl ?_))
  refine W_nil ?_
  refine W_condS rfl (fun c1 => ?_) (fun c1 => ?_)
  · simp only [cond_true, cond_false, Bool.and_eq_true, Bool.or_eq_true, Bool.and_eq_false_iff, Bool.or_eq_false_iff, decide_eq_true_eq, decide_eq_false_iff_not, Bool.not_eq_true', Bool.not_eq_false', ne_eq, Decidable.not_not] at c1
    refine W_sr ?_
    refine W_assign rfl rfl ?_
    refine W_nil ?_
    refine W_ret1m (H2 := H) Try.results25 rfl (.nil _) (by repeat (first | exact HSub.refl _ | refine HSub.cons (by repeat (first | exact Take.here _ | apply Take.next | apply Take.app)) ?_ | refine HSub.app (by repeat (first | exact TakeS.here _ | apply TakeS.next | apply TakeS.app)) ?_ | refine HSub.drop ?_ | refine HSub.dropS ?_ | exact HSub.nil _)) ?_
    refine ⟨congrArg Value.bool (Eq.symm ?_), rfl⟩
    rw [← Bool.not_eq_true, in_iff (s := ⟨k, a, b, c, x, y, raw⟩) hk]
    rintro ⟨h, _, _⟩
    exact h (by simpa [or_assoc] using c1)
  · simp only [cond_true, cond_false, Bool.and_eq_true, Bool.or_eq_true, Bool.and_eq_false_iff, Bool.or_eq_false_iff, decide_eq_true_eq, decide_eq_false_iff_not, Bool.not_eq_true', Bool.not_eq_false', ne_eq, Decidable.not_not] at c1
    refine W_skip ?_
    refine W_sr ?_
    refine W_fieldAddr rfl fld33_0 (by decide) rfl ?_
    refine W_load rfl ty3 rfl (Cell.own (by repeat (first | exact List.mem_cons_self | apply List.mem_cons_of_mem | apply List.mem_append_right)) rfl) rfl ?_
    refine W_bin rfl rfl b_neq rfl ?_
    refine W_move rfl rfl ?_
    apply W_or
    iterate 4 exact rfl
    case h1 =>
      intro hg3
      refine W_gyes rfl rfl ?_
      refine W_fieldAddr rfl fld33_2 (by decide) rfl ?_
      refine W_gyes rfl rfl ?_
      refine W_load rfl ty3 rfl (Cell.own (by repeat (first | exact List.mem_cons_self | apply List.mem_cons_of_mem | apply List.mem_append_right)) rfl) rfl ?_
      refine W_gyes rfl rfl ?_
      refine W_bin rfl rfl b_geq rfl ?_
      refine W_gyes rfl rfl ?_
      refine W_move rfl rfl ?_
      apply W_and
      iterate 4 exact rfl
      case h1 =>
        intro hg7
        refine W_gyes rfl rfl ?_
        refine W_fieldAddr rfl fld33_3 (by decide) rfl ?_
        refine W_gyes rfl rfl ?_
        refine W_load rfl ty3 rfl (Cell.own (by repeat (first | exact List.mem_cons_self | apply List.mem_cons_of_mem | apply List.mem_append_right)) rfl) rfl ?_
        refine W_gyes rfl rfl ?_
        refine W_bin rfl rfl b_geq rfl ?_
        exact W_met rfl (by repeat (first | exact .refl | refine .cons rfl ?_))
      exact W_met rfl (by repeat (first | exact .refl | refine .cons rfl ?_))
    refine W_move rfl rfl ?_
    apply W_and
    iterate 4 exact rfl
    case h1 =>
      intro hg13
      refine W_gyes rfl rfl ?_
      refine W_fieldAddr rfl fld33_0 (by decide) rfl ?_
      refine W_gyes rfl rfl ?_
      refine W_load rfl ty3 rfl (Cell.own (by repeat (first | exact List.mem_cons_self | apply List.mem_cons_of_mem | apply List.mem_append_right)) rfl) rfl ?_
      refine W_gyes rfl rfl ?_
      refine W_bin rfl rfl b_neq rfl ?_
      refine W_gyes rfl rfl ?_
      refine W_move rfl rfl ?_
      apply W_or
      iterate 4 exact rfl
      case h1 =>
        intro hg17
        refine W_gyes rfl rfl ?_
        refine W_fieldAddr rfl fld33_3 (by decide) rfl ?_
        refine W_gyes rfl rfl ?_
        refine W_load rfl ty3 rfl (Cell.own (by repeat (first | exact List.mem_cons_self | apply List.mem_cons_of_mem | apply List.mem_append_right)) rfl) rfl ?_
        refine W_gyes rfl rfl ?_
        refine W_bin rfl rfl b_geq rfl ?_
        exact W_met rfl (by repeat (first | exact .refl | refine .cons rfl ?_))
      exact W_met rfl (by repeat (first | exact .refl | refine .cons rfl ?_))
    refine W_assign rfl rfl ?_
    refine W_nil ?_
    refine W_ret1m (H2 := H) Try.results25 rfl (.nil _) (by repeat (first | exact HSub.refl _ | refine HSub.cons (by repeat (first | exact Take.here _ | apply Take.next | apply Take.app)) ?_ | refine HSub.app (by repeat (first | exact TakeS.here _ | apply TakeS.next | apply TakeS.app)) ?_ | refine HSub.drop ?_ | refine HSub.dropS ?_ | exact HSub.nil _)) ?_
    refine ⟨congrArg Value.bool (Eq.symm ?_), rfl⟩
    rw [Bool.eq_iff_iff, in_iff (s := ⟨k, a, b, c, x, y, raw⟩) hk]
    simp only [Bool.and_eq_true, Bool.or_eq_true, decide_eq_true_eq, Bool.not_eq_true', decide_eq_false_iff_not]
    omega
end Go.Proofs.Ytkhkagjbeilbgaa
