/-
  Own work: contracts of functions that the statement reaches, and plain facts on what they compute; each theorem says its conditions.
-/
import Derived.Test.YtkhkagjbeilbgaaS5
set_option linter.all false
set_option linter.unusedSimpArgs false
set_option linter.unusedVariables false
namespace Go.Proofs.Ytkhkagjbeilbgaa
open Go Go.Sl
attribute [local irreducible] W
open Go.Script

def I64 (z : Int) : Prop := -9223372036854775808 ≤ z ∧ z ≤ 9223372036854775807
def Wd (z : Int) : Prop := 0 ≤ z ∧ z < 18446744073709551616
structure StOk (s : St) : Prop where
  kind : I64 s.kind
  a : I64 s.a
  b : I64 s.b
  c : I64 s.c
  x : Wd s.x
  y : Wd s.y
  raw : Bytes s.raw
theorem u64_zero {z : Int} (h : I64 z) : u64 z = 0 ↔ z = 0 := by unfold u64 I64 at *; omega
theorem uses_w : ∀ n : Fin 18, hasB (usesB (n.val : Int)) 97 = decide ((shW (n.val : Int)).getD 0 0 ≠ 0) ∧ hasB (usesB (n.val : Int)) 98 = decide ((shW (n.val : Int)).getD 1 0 ≠ 0) ∧ (hasB (usesB (n.val : Int)) 99 || hasB (usesB (n.val : Int)) 67) = decide ((shW (n.val : Int)).getD 2 0 ≠ 0) ∧
    hasB (usesB (n.val : Int)) 120 = decide ((shW (n.val : Int)).getD 3 0 ≠ 0) ∧ hasB (usesB (n.val : Int)) 121 = decide ((shW (n.val : Int)).getD 4 0 ≠ 0) ∧ (usesB (n.val : Int)).size ≤ 1000 := by decide +kernel
def formB (s : St) : Prop := (List.range 5).any (badForm (shW s.kind) s.parts) = true ∨ (0 < s.raw.length ∧ s.kind ≠ 5 ∧ s.kind ≠ 6)
theorem form_iff {s : St} (hk : isK s.kind = true) (ho : StOk s) : formB s ↔
    ((s.a ≠ 0 ∧ hasB (usesB s.kind) 97 = false) ∨ (s.b ≠ 0 ∧ hasB (usesB s.kind) 98 = false) ∨ (s.c ≠ 0 ∧ hasB (usesB s.kind) 99 = false ∧ hasB (usesB s.kind) 67 = false) ∨ (s.x ≠ 0 ∧ hasB (usesB s.kind) 120 = false) ∨ (s.y ≠ 0 ∧ hasB (usesB s.kind) 121 = false) ∨ (0 < s.raw.length ∧ s.kind ≠ 5 ∧ s.kind ≠ 6)) := by
  obtain ⟨n, hn⟩ := isK_nat hk
  obtain ⟨h0, h1, h2, h3, h4, _⟩ := uses_w n
  rw [← hn] at h0 h1 h2 h3 h4
  have e2 : hasB (usesB s.kind) 99 = false ∧ hasB (usesB s.kind) 67 = false ↔ (shW s.kind).getD 2 0 = 0 := by
    rw [← Bool.or_eq_false_iff, h2, decide_eq_false_iff_not, Decidable.not_not]
  rw [e2, h0, h1, h3, h4]
  simp only [decide_eq_false_iff_not, ne_eq, Decidable.not_not]
  unfold formB
  rw [show (List.range 5) = [0, 1, 2, 3, 4] by rfl]
  simp only [List.any_cons, List.any_nil, Bool.or_false, badForm, St.parts, Bool.or_eq_true, Bool.and_eq_true, decide_eq_true_eq, List.getD_cons_zero, List.getD_cons_succ, ne_eq, u64_zero ho.a, u64_zero ho.b, u64_zero ho.c]
  simp only [and_comm, or_assoc]
theorem chk_formB {s : St} (hk : isK s.kind = true) (h : formB s) : chk s = 9 := by
  unfold chk
  rw [if_neg (by simp [hk])]
  by_cases h1 : (List.range 5).any (badForm (shW s.kind) s.parts) = true
  · rw [if_pos h1]
  · rw [if_neg h1, if_pos (h.resolve_left h1)]
theorem chk_rest {s : St} (hk : isK s.kind = true) (h : ¬ formB s) : chk s = if inB s = false then 2 else if rawOk s.kind s.raw.length = false then 8 else 0 := by
  unfold chk inB
  rw [if_neg (by simp [hk]), if_neg (fun e => h (.inl e)), if_neg (fun e => h (.inr e))]
  cases (List.range 3).any (outB (shB s.kind) s.abc) <;> simp
theorem word_empty {k : Int} : ((wordB k).toList == (⟨#[]⟩ : ByteArray).toList) = !isK k := by
  unfold wordB
  cases h : isK k with
  | false => rw [if_neg (by decide)]; decide +kernel
  | true =>
    rw [if_pos rfl]
    obtain ⟨n, rfl⟩ := isK_nat h
    have : ∀ n : Fin 18, ((wordsA.getD ((n.val : Int)).toNat ⟨#[]⟩).toList == (⟨#[]⟩ : ByteArray).toList) = false := by decide +kernel
    simpa using this n
set_option maxHeartbeats 4000000 in
theorem rcheck_pure (s : St) (ho : StOk s) (ad : Option Addr) (cap : Nat) : Pure Try.prog (fun _ => True) 13 [.agg (stV s (.slice ad s.raw.length cap)).toArray] (.int .i64 (chk s)) := by
  intro w0 H hT
  refine L_enter Try.func13 rfl Try.ntmps13 rfl rfl ?_
  refine W_sr ?_
  refine W_box rfl rfl rfl (fun b1 => ?_)
  refine W_assign rfl rfl ?_
  refine W_nil ?_
  refine W_seq ?_
  refine W_sr ?_
  refine W_fieldAddr rfl fld33_0 (by decide) rfl ?_
  refine W_load rfl ty3 rfl (Cell.own (by repeat (first | exact List.mem_cons_self | apply List.mem_cons_of_mem | apply List.mem_append_right)) rfl) rfl ?_
  refine W_callp (.cons rfl .nil) Try.call22 rfl hT (refWord_pure _) ?_
  skip
  refine W_seq_s rfl rfl rfl ?_
  rw [word_empty]
  refine W_nil ?_
  refine W_condS rfl (fun c0 => ?_) (fun c0 => ?_)
  · simp only [cond_true, cond_false, Bool.and_eq_true, Bool.or_eq_true, Bool.and_eq_false_iff, Bool.or_eq_false_iff, decide_eq_true_eq, decide_eq_false_iff_not, Bool.not_eq_true', Bool.not_eq_false', ne_eq, Decidable.not_not] at c0
    refine W_sr ?_
    refine W_assign rfl rfl ?_
    refine W_nil ?_
    refine W_ret1m (H2 := H) Try.results13 rfl (.nil _) (by repeat (first | exact HSub.refl _ | refine HSub.cons (by repeat (first | exact Take.here _ | apply Take.next | apply Take.app)) ?_ | refine HSub.app (by repeat (first | exact TakeS.here _ | apply TakeS.next | apply TakeS.app)) ?_ | refine HSub.drop ?_ | refine HSub.dropS ?_ | exact HSub.nil _)) ?_
    exact ⟨congrArg (Value.int .i64) (Eq.symm (by unfold chk; rw [if_pos (by simpa using c0)])), rfl⟩
  · simp only [cond_true, cond_false, Bool.and_eq_true, Bool.or_eq_true, Bool.and_eq_false_iff, Bool.or_eq_false_iff, decide_eq_true_eq, decide_eq_false_iff_not, Bool.not_eq_true', Bool.not_eq_false', ne_eq, Decidable.not_not] at c0
    refine W_skip ?_
    refine W_sr ?_
    refine W_fieldAddr rfl fld33_0 (by decide) rfl ?_
    refine W_load rfl ty3 rfl (Cell.own (by repeat (first | exact List.mem_cons_self | apply List.mem_cons_of_mem | apply List.mem_append_right)) rfl) rfl ?_
    have hk : isK s.kind = true := by simpa using c0
    obtain ⟨n, hn⟩ := isK_nat hk
    have hus : (usesB s.kind).size ≤ 1000 := by rw [hn]; exact (uses_w n).2.2.2.2.2
    refine W_callp (.cons rfl .nil) Try.call23 rfl hT (refUses_pure _ hk) ?_
    refine W_assign rfl rfl ?_
    refine W_nil ?_
    refine W_seq ?_
    refine W_sr ?_
    refine W_fieldAddr rfl fld33_1 (by decide) rfl ?_
    refine W_load rfl ty3 rfl (Cell.own (by repeat (first | exact List.mem_cons_self | apply List.mem_cons_of_mem | apply List.mem_append_right)) rfl) rfl ?_
    refine W_bin rfl rfl b_neq rfl ?_
    refine W_move rfl rfl ?_
    apply W_and
    iterate 4 exact rfl
    case h1 =>
      intro hg3
      refine W_gyes rfl rfl ?_
      refine W_move rfl rfl ?_
      refine W_gyes rfl rfl ?_
      refine W_callp (.cons rfl (.cons rfl .nil)) Try.call24 rfl hT (has_pure _ _ hus) ?_
      refine W_gyes rfl rfl ?_
      refine W_not rfl rfl ?_
      exact W_met rfl (by repeat (first | exact .refl | refine .cons rfl ?_))
    refine W_move rfl rfl ?_
    apply W_or
    iterate 4 exact rfl
    case h1 =>
      intro hg8
      refine W_gyes rfl rfl ?_
      refine W_fieldAddr rfl fld33_2 (by decide) rfl ?_
      refine W_gyes rfl rfl ?_
      refine W_load rfl ty3 rfl (Cell.own (by repeat (first | exact List.mem_cons_self | apply List.mem_cons_of_mem | apply List.mem_append_right)) rfl) rfl ?_
      refine W_gyes rfl rfl ?_
      refine W_bin rfl rfl b_neq rfl ?_
      refine W_gyes rfl rfl ?_
      refine W_move rfl rfl ?_
      apply W_and
      iterate 4 exact rfl
      case h1 =>
        intro hg12
        refine W_gyes rfl rfl ?_
        refine W_move rfl rfl ?_
        refine W_gyes rfl rfl ?_
        refine W_callp (.cons rfl (.cons rfl .nil)) Try.call24 rfl hT (has_pure _ _ hus) ?_
        refine W_gyes rfl rfl ?_
        refine W_not rfl rfl ?_
        exact W_met rfl (by repeat (first | exact .refl | refine .cons rfl ?_))
      exact W_met rfl (by repeat (first | exact .refl | refine .cons rfl ?_))
    refine W_move rfl rfl ?_
    apply W_or
    iterate 4 exact rfl
    case h1 =>
      intro hg18
      refine W_gyes rfl rfl ?_
      refine W_fieldAddr rfl fld33_3 (by decide) rfl ?_
      refine W_gyes rfl rfl ?_
      refine W_load rfl ty3 rfl (Cell.own (by repeat (first | exact List.mem_cons_self | apply List.mem_cons_of_mem | apply List.mem_append_right)) rfl) rfl ?_
      refine W_gyes rfl rfl ?_
      refine W_bin rfl rfl b_neq rfl ?_
      refine W_gyes rfl rfl ?_
      refine W_move rfl rfl ?_
      apply W_and
      iterate 4 exact rfl
      case h1 =>
        intro hg22
        refine W_gyes rfl rfl ?_
        refine W_move rfl rfl ?_
        refine W_gyes rfl rfl ?_
        refine W_callp (.cons rfl (.cons rfl .nil)) Try.call24 rfl hT (has_pure _ _ hus) ?_
        refine W_gyes rfl rfl ?_
        refine W_not rfl rfl ?_
        exact W_met rfl (by repeat (first | exact .refl | refine .cons rfl ?_))
      refine W_gyes rfl rfl ?_
      refine W_move rfl rfl ?_
      apply W_and
      iterate 4 exact rfl
      case h1 =>
        intro hg27
        refine W_gyes rfl rfl ?_
        refine W_move rfl rfl ?_
        refine W_gyes rfl rfl ?_
        refine W_callp (.cons rfl (.cons rfl .nil)) Try.call24 rfl hT (has_pure _ _ hus) ?_
        refine W_gyes rfl rfl ?_
        refine W_not rfl rfl ?_
        exact W_met rfl (by repeat (first | exact .refl | refine .cons rfl ?_))
      exact W_met rfl (by repeat (first | exact .refl | refine .cons rfl ?_))
    refine W_move rfl rfl ?_
    apply W_or
    iterate 4 exact rfl
    case h1 =>
      intro hg33
      refine W_gyes rfl rfl ?_
      refine W_fieldAddr rfl fld33_4 (by decide) rfl ?_
      refine W_gyes rfl rfl ?_
      refine W_load rfl ty27 rfl (Cell.own (by repeat (first | exact List.mem_cons_self | apply List.mem_cons_of_mem | apply List.mem_append_right)) rfl) rfl ?_
      refine W_gyes rfl rfl ?_
      refine W_bin rfl rfl b_neq rfl ?_
      refine W_gyes rfl rfl ?_
      refine W_move rfl rfl ?_
      apply W_and
      iterate 4 exact rfl
      case h1 =>
        intro hg37
        refine W_gyes rfl rfl ?_
        refine W_move rfl rfl ?_
        refine W_gyes rfl rfl ?_
        refine W_callp (.cons rfl (.cons rfl .nil)) Try.call24 rfl hT (has_pure _ _ hus) ?_
        refine W_gyes rfl rfl ?_
        refine W_not rfl rfl ?_
        exact W_met rfl (by repeat (first | exact .refl | refine .cons rfl ?_))
      exact W_met rfl (by repeat (first | exact .refl | refine .cons rfl ?_))
    refine W_move rfl rfl ?_
    apply W_or
    iterate 4 exact rfl
    case h1 =>
      intro hg43
      refine W_gyes rfl rfl ?_
      refine W_fieldAddr rfl fld33_5 (by decide) rfl ?_
      refine W_gyes rfl rfl ?_
      refine W_load rfl ty27 rfl (Cell.own (by repeat (first | exact List.mem_cons_self | apply List.mem_cons_of_mem | apply List.mem_append_right)) rfl) rfl ?_
      refine W_gyes rfl rfl ?_
      refine W_bin rfl rfl b_neq rfl ?_
      refine W_gyes rfl rfl ?_
      refine W_move rfl rfl ?_
      apply W_and
      iterate 4 exact rfl
      case h1 =>
        intro hg47
        refine W_gyes rfl rfl ?_
        refine W_move rfl rfl ?_
        refine W_gyes rfl rfl ?_
        refine W_callp (.cons rfl (.cons rfl .nil)) Try.call24 rfl hT (has_pure _ _ hus) ?_
        refine W_gyes rfl rfl ?_
        refine W_not rfl rfl ?_
        exact W_met rfl (by repeat (first | exact .refl | refine .cons rfl ?_))
      exact W_met rfl (by repeat (first | exact .refl | refine .cons rfl ?_))
    refine W_move rfl rfl ?_
    apply W_or
    iterate 4 exact rfl
    case h1 =>
      intro hg53
      refine W_gyes rfl rfl ?_
      refine W_fieldAddr rfl fld33_6 (by decide) rfl ?_
      refine W_gyes rfl rfl ?_
      refine W_load rfl ty22 rfl (Cell.own (by repeat (first | exact List.mem_cons_self | apply List.mem_cons_of_mem | apply List.mem_append_right)) rfl) rfl ?_
      refine W_gyes rfl rfl ?_
      refine W_len rfl ty22 rfl rfl ?_
      refine W_gyes rfl rfl ?_
      refine W_bin rfl rfl b_gtr rfl ?_
      refine W_gyes rfl rfl ?_
      refine W_move rfl rfl ?_
      apply W_and
      iterate 4 exact rfl
      case h1 =>
        intro hg58
        refine W_gyes rfl rfl ?_
        refine W_fieldAddr rfl fld33_0 (by decide) rfl ?_
        refine W_gyes rfl rfl ?_
        refine W_load rfl ty3 rfl (Cell.own (by repeat (first | exact List.mem_cons_self | apply List.mem_cons_of_mem | apply List.mem_append_right)) rfl) rfl ?_
        refine W_gyes rfl rfl ?_
        refine W_bin rfl rfl b_neq rfl ?_
        exact W_met rfl (by repeat (first | exact .refl | refine .cons rfl ?_))
      refine W_gyes rfl rfl ?_
      refine W_move rfl rfl ?_
      apply W_and
      iterate 4 exact rfl
      case h1 =>
        intro hg63
        refine W_gyes rfl rfl ?_
        refine W_fieldAddr rfl fld33_0 (by decide) rfl ?_
        refine W_gyes rfl rfl ?_
        refine W_load rfl ty3 rfl (Cell.own (by repeat (first | exact List.mem_cons_self | apply List.mem_cons_of_mem | apply List.mem_append_right)) rfl) rfl ?_
        refine W_gyes rfl rfl ?_
        refine W_bin rfl rfl b_neq rfl ?_
        exact W_met rfl (by repeat (first | exact .refl | refine .cons rfl ?_))
      exact W_met rfl (by repeat (first | exact .refl | refine .cons rfl ?_))
    refine W_nil ?_
    refine W_condPS (p := formB s) rfl (by rw [form_iff hk ho]; simp only [Bool.and_eq_true, Bool.or_eq_true, decide_eq_true_eq, Bool.not_eq_true', ne_eq, or_assoc, and_assoc, Int.natCast_pos]; try rfl) (fun c1 => ?_) (fun c1 => ?_)
    · skip
      refine W_sr ?_
      refine W_assign rfl rfl ?_
      refine W_nil ?_
      refine W_ret1m (H2 := H) Try.results13 rfl (.nil _) (by repeat (first | exact HSub.refl _ | refine HSub.cons (by repeat (first | exact Take.here _ | apply Take.next | apply Take.app)) ?_ | refine HSub.app (by repeat (first | exact TakeS.here _ | apply TakeS.next | apply TakeS.app)) ?_ | refine HSub.drop ?_ | refine HSub.dropS ?_ | exact HSub.nil _)) ?_
      exact ⟨congrArg (Value.int .i64) (Eq.symm (by exact chk_formB hk c1)), rfl⟩
    · skip
      refine W_skip ?_
      refine W_seq ?_
      refine W_sr ?_
      refine W_loadB rfl ty33 rfl (by repeat (first | exact List.mem_cons_self | apply List.mem_cons_of_mem | apply List.mem_append_right)) rfl (by simp only [fillL, spliceL, Value.cells, List.take_zero, List.take_succ_cons, List.take_nil, List.drop_zero, List.drop_succ_cons, List.drop_nil, List.nil_append, List.cons_append, List.append_nil, List.length_cons, List.length_nil, Nat.zero_add, Nat.reduceAdd, List.toList_toArray]; rfl) rfl ?_
      refine W_callp (.cons rfl .nil) Try.call25 rfl hT (within_pure _ _ _ _ _ _ _ _ hk) ?_
      refine W_not rfl rfl ?_
      refine W_nil ?_
      refine W_condS rfl (fun c2 => ?_) (fun c2 => ?_)
      · simp only [cond_true, cond_false, Bool.and_eq_true, Bool.or_eq_true, Bool.and_eq_false_iff, Bool.or_eq_false_iff, decide_eq_true_eq, decide_eq_false_iff_not, Bool.not_eq_true', Bool.not_eq_false', ne_eq, Decidable.not_not] at c2
        refine W_sr ?_
        refine W_assign rfl rfl ?_
        refine W_nil ?_
        refine W_ret1m (H2 := H) Try.results13 rfl (.nil _) (by repeat (first | exact HSub.refl _ | refine HSub.cons (by repeat (first | exact Take.here _ | apply Take.next | apply Take.app)) ?_ | refine HSub.app (by repeat (first | exact TakeS.here _ | apply TakeS.next | apply TakeS.app)) ?_ | refine HSub.drop ?_ | refine HSub.dropS ?_ | exact HSub.nil _)) ?_
        exact ⟨congrArg (Value.int .i64) (Eq.symm (by rw [chk_rest hk c1, if_pos (by simpa using c2)])), rfl⟩
      · simp only [cond_true, cond_false, Bool.and_eq_true, Bool.or_eq_true, Bool.and_eq_false_iff, Bool.or_eq_false_iff, decide_eq_true_eq, decide_eq_false_iff_not, Bool.not_eq_true', Bool.not_eq_false', ne_eq, Decidable.not_not] at c2
        refine W_skip ?_
        refine W_seq ?_
        refine W_sr ?_
        refine W_fieldAddr rfl fld33_0 (by decide) rfl ?_
        refine W_load rfl ty3 rfl (Cell.own (by repeat (first | exact List.mem_cons_self | apply List.mem_cons_of_mem | apply List.mem_append_right)) rfl) rfl ?_
        refine W_fieldAddr rfl fld33_6 (by decide) rfl ?_
        refine W_load rfl ty22 rfl (Cell.own (by repeat (first | exact List.mem_cons_self | apply List.mem_cons_of_mem | apply List.mem_append_right)) rfl) rfl ?_
        refine W_len rfl ty22 rfl rfl ?_
        refine W_callp (.cons rfl (.cons rfl .nil)) Try.call26 rfl hT (long_pure _ _ (by omega)) ?_
        refine W_not rfl rfl ?_
        refine W_nil ?_
        refine W_condS rfl (fun c3 => ?_) (fun c3 => ?_)
        · simp only [cond_true, cond_false, Bool.and_eq_true, Bool.or_eq_true, Bool.and_eq_false_iff, Bool.or_eq_false_iff, decide_eq_true_eq, decide_eq_false_iff_not, Bool.not_eq_true', Bool.not_eq_false', ne_eq, Decidable.not_not] at c3
          refine W_sr ?_
          refine W_assign rfl rfl ?_
          refine W_nil ?_
          refine W_ret1m (H2 := H) Try.results13 rfl (.nil _) (by repeat (first | exact HSub.refl _ | refine HSub.cons (by repeat (first | exact Take.here _ | apply Take.next | apply Take.app)) ?_ | refine HSub.app (by repeat (first | exact TakeS.here _ | apply TakeS.next | apply TakeS.app)) ?_ | refine HSub.drop ?_ | refine HSub.dropS ?_ | exact HSub.nil _)) ?_
          exact ⟨congrArg (Value.int .i64) (Eq.symm (by rw [chk_rest hk c1, if_neg (by simpa using c2), if_pos (by simpa using c3)])), rfl⟩
        · simp only [cond_true, cond_false, Bool.and_eq_true, Bool.or_eq_true, Bool.and_eq_false_iff, Bool.or_eq_false_iff, decide_eq_true_eq, decide_eq_false_iff_not, Bool.not_eq_true', Bool.not_eq_false', ne_eq, Decidable.not_not] at c3
          refine W_skip ?_
          refine W_sr ?_
          refine W_assign rfl rfl ?_
          refine W_nil ?_
          refine W_ret1m (H2 := H) Try.results13 rfl (.nil _) (by repeat (first | exact HSub.refl _ | refine HSub.cons (by repeat (first | exact Take.here _ | apply Take.next | apply Take.app)) ?_ | refine HSub.app (by repeat (first | exact TakeS.here _ | apply TakeS.next | apply TakeS.app)) ?_ | refine HSub.drop ?_ | refine HSub.dropS ?_ | exact HSub.nil _)) ?_
          exact ⟨congrArg (Value.int .i64) (Eq.symm (by rw [chk_rest hk c1, if_neg (by simpa using c2), if_neg (by simpa using c3)])), rfl⟩
end Go.Proofs.Ytkhkagjbeilbgaa
