/-
  Own work: contracts of functions that the statement reaches, and plain facts on what they compute; each theorem says its conditions.
-/
import Derived.Test.YtkhkagjbeilbgaaS3
set_option linter.all false
set_option linter.unusedSimpArgs false
set_option linter.unusedVariables false
namespace Go.Proofs.Ytkhkagjbeilbgaa
open Go Go.Sl
attribute [local irreducible] W
open Go.Script

def wordsA : List ByteArray := [⟨#[116, 105, 99, 107]⟩, ⟨#[112, 105, 99, 107]⟩, ⟨#[98, 114, 105, 110, 103]⟩, ⟨#[98, 114, 101, 97, 107]⟩, ⟨#[101, 118, 105, 99, 116]⟩, ⟨#[112, 111, 107, 101]⟩, ⟨#[108, 111, 97, 100]⟩, ⟨#[109, 97, 107, 101]⟩, ⟨#[114, 117, 110]⟩, ⟨#[112, 117, 116]⟩, ⟨#[100, 114, 111, 112]⟩, ⟨#[102, 105, 110, 100]⟩, ⟨#[102, 114, 101, 101]⟩, ⟨#[101, 110, 116, 101, 114]⟩, ⟨#[101, 120, 105, 116]⟩, ⟨#[115, 121, 110, 99]⟩, ⟨#[98, 97, 114, 114, 105, 101, 114]⟩, ⟨#[117, 110, 108, 111, 97, 100]⟩]
def usesA : List ByteArray := [⟨#[97]⟩, ⟨#[97, 98]⟩, ⟨#[97]⟩, ⟨#[97]⟩, ⟨#[97]⟩, ⟨#[97]⟩, ⟨#[97]⟩, ⟨#[97, 98, 99]⟩, ⟨#[97, 98, 67, 120]⟩, ⟨#[97, 98, 120, 121]⟩, ⟨#[97, 120]⟩, ⟨#[97, 120]⟩, ⟨#[97]⟩, ⟨#[97]⟩, ⟨#[97]⟩, ⟨#[]⟩, ⟨#[]⟩, ⟨#[97]⟩]
def wordB (k : Int) : ByteArray := if isK k then wordsA.getD k.toNat ⟨#[]⟩ else ⟨#[]⟩
def usesB (k : Int) : ByteArray := usesA.getD k.toNat ⟨#[]⟩
theorem str_get {l : List ByteArray} {i : Nat} (h : i < l.length) : (l.map Value.string)[i]? = some (.string (l.getD i ⟨#[]⟩)) := by simp [List.getD, h]
set_option maxHeartbeats 1000000 in
theorem refWord_pure (k : Int) : Pure Try.prog (fun _ => True) 22 [.int .i64 k] (.string (wordB k)) := by
  intro w0 H hT
  refine L_enter Try.func22 rfl Try.ntmps22 rfl rfl ?_
  refine W_sr ?_
  refine W_assign rfl rfl ?_
  refine W_nil ?_
  refine W_sr ?_
  refine W_buildSlice (l := wordsA.map Value.string) ty83 ty9 (.cons rfl rfl rfl rfl rfl (.cons rfl rfl rfl rfl rfl (.cons rfl rfl rfl rfl rfl (.cons rfl rfl rfl rfl rfl (.cons rfl rfl rfl rfl rfl (.cons rfl rfl rfl rfl rfl (.cons rfl rfl rfl rfl rfl (.cons rfl rfl rfl rfl rfl (.cons rfl rfl rfl rfl rfl (.cons rfl rfl rfl rfl rfl (.cons rfl rfl rfl rfl rfl (.cons rfl rfl rfl rfl rfl (.cons rfl rfl rfl rfl rfl (.cons rfl rfl rfl rfl rfl (.cons rfl rfl rfl rfl rfl (.cons rfl rfl rfl rfl rfl (.cons rfl rfl rfl rfl rfl (.cons rfl rfl rfl rfl rfl .nil)))))))))))))))))) rfl rfl rfl rfl rfl rfl rfl (fun b4 => ?_)
  refine W_assign rfl rfl ?_
  refine W_nil ?_
  refine W_seq ?_
  refine W_sr ?_
  refine W_move rfl rfl ?_
  refine W_bin rfl rfl b_lss rfl ?_
  refine W_move rfl rfl ?_
  apply W_or
  iterate 4 exact rfl
  case h1 =>
    intro hg2
    refine W_gyes rfl rfl ?_
    refine W_move rfl rfl ?_
    refine W_gyes rfl rfl ?_
    refine W_bin rfl rfl b_gtr rfl ?_
    exact W_met rfl (by repeat (first | exact .refl | refine .cons rfl ?_))
  refine W_nil ?_
  refine W_condS rfl (fun c0 => ?_) (fun c0 => ?_)
  · simp only [cond_true, cond_false, Bool.and_eq_true, Bool.or_eq_true, Bool.and_eq_false_iff, Bool.or_eq_false_iff, decide_eq_true_eq, decide_eq_false_iff_not, Bool.not_eq_true', Bool.not_eq_false', ne_eq, Decidable.not_not] at c0
    refine W_sr ?_
    refine W_assign rfl rfl ?_
    refine W_nil ?_
    refine W_ret1m (H2 := H) Try.results22 rfl (.nil _) (by repeat (first | exact HSub.refl _ | refine HSub.cons (by repeat (first | exact Take.here _ | apply Take.next | apply Take.app)) ?_ | refine HSub.app (by repeat (first | exact TakeS.here _ | apply TakeS.next | apply TakeS.app)) ?_ | refine HSub.drop ?_ | refine HSub.dropS ?_ | exact HSub.nil _)) ?_
    exact ⟨by unfold wordB; rw [if_neg (by simp [isK]; omega)], rfl⟩
  · simp only [cond_true, cond_false, Bool.and_eq_true, Bool.or_eq_true, Bool.and_eq_false_iff, Bool.or_eq_false_iff, decide_eq_true_eq, decide_eq_false_iff_not, Bool.not_eq_true', Bool.not_eq_false', ne_eq, Decidable.not_not] at c0
    refine W_skip ?_
    refine W_sr ?_
    refine W_move rfl rfl ?_
    refine W_move rfl rfl ?_
    refine W_indexAddr (j := k.toNat) rfl rfl ty83 ty9 (by first | rfl | omega) (by first | decide | omega) rfl rfl ?_
    refine W_load rfl ty9 rfl (v := .string (wordB k)) (Cell.own (by repeat (first | exact List.mem_cons_self | apply List.mem_cons_of_mem | apply List.mem_append_right)) (by rw [Nat.zero_add, Nat.mul_one, str_get (by show k.toNat < 18; omega)]; unfold wordB; rw [if_pos (by simp [isK]; omega)])) rfl ?_
    refine W_assign rfl rfl ?_
    refine W_nil ?_
    refine W_ret1m (H2 := H) Try.results22 rfl (.nil _) (by repeat (first | exact HSub.refl _ | refine HSub.cons (by repeat (first | exact Take.here _ | apply Take.next | apply Take.app)) ?_ | refine HSub.app (by repeat (first | exact TakeS.here _ | apply TakeS.next | apply TakeS.app)) ?_ | refine HSub.drop ?_ | refine HSub.dropS ?_ | exact HSub.nil _)) ?_
    exact ⟨rfl, rfl⟩
set_option maxHeartbeats 1000000 in
theorem refUses_pure (k : Int) (hk : isK k = true) : Pure Try.prog (fun _ => True) 23 [.int .i64 k] (.string (usesB k)) := by
  intro w0 H hT
  have hk1 : 0 ≤ k ∧ k ≤ 17 := by simpa [isK] using hk
  refine L_enter Try.func23 rfl Try.ntmps23 rfl rfl ?_
  refine W_sr ?_
  refine W_assign rfl rfl ?_
  refine W_nil ?_
  refine W_sr ?_
  refine W_buildSlice (l := usesA.map Value.string) ty83 ty9 (.cons rfl rfl rfl rfl rfl (.cons rfl rfl rfl rfl rfl (.cons rfl rfl rfl rfl rfl (.cons rfl rfl rfl rfl rfl (.cons rfl rfl rfl rfl rfl (.cons rfl rfl rfl rfl rfl (.cons rfl rfl rfl rfl rfl (.cons rfl rfl rfl rfl rfl (.cons rfl rfl rfl rfl rfl (.cons rfl rfl rfl rfl rfl (.cons rfl rfl rfl rfl rfl (.cons rfl rfl rfl rfl rfl (.cons rfl rfl rfl rfl rfl (.cons rfl rfl rfl rfl rfl (.cons rfl rfl rfl rfl rfl (.cons rfl rfl rfl rfl rfl (.cons rfl rfl rfl rfl rfl (.cons rfl rfl rfl rfl rfl .nil)))))))))))))))))) rfl rfl rfl rfl rfl rfl rfl (fun b4 => ?_)
  refine W_assign rfl rfl ?_
  refine W_nil ?_
  refine W_sr ?_
  refine W_move rfl rfl ?_
  refine W_move rfl rfl ?_
  refine W_indexAddr (j := k.toNat) rfl rfl ty83 ty9 (by first | rfl | omega) (by first | decide | omega) rfl rfl ?_
  refine W_load rfl ty9 rfl (v := .string (usesB k)) (Cell.own (by repeat (first | exact List.mem_cons_self | apply List.mem_cons_of_mem | apply List.mem_append_right)) (by rw [Nat.zero_add, Nat.mul_one, str_get (by show k.toNat < 18; omega)]; rfl)) rfl ?_
  refine W_assign rfl rfl ?_
  refine W_nil ?_
  refine W_ret1m (H2 := H) Try.results23 rfl (.nil _) (by repeat (first | exact HSub.refl _ | refine HSub.cons (by repeat (first | exact Take.here _ | apply Take.next | apply Take.app)) ?_ | refine HSub.app (by repeat (first | exact TakeS.here _ | apply TakeS.next | apply TakeS.app)) ?_ | refine HSub.drop ?_ | refine HSub.dropS ?_ | exact HSub.nil _)) ?_
  exact ⟨rfl, rfl⟩

def hasB (b : ByteArray) (c : Int) : Bool := (List.range b.size).any fun j => decide (((b[j]?.getD 0).toNat : Int) = c)
theorem hasB_f {b : ByteArray} {c : Int} (h : ∀ j, j < b.size → ∀ r, b[j]? = some r → ((r.toNat : Int) ≠ c)) : hasB b c = false := by
  refine any5.2 fun j hj => decide_eq_false ?_
  rw [getElem?_pos b j hj]
  exact h j hj _ (getElem?_pos b j hj)
set_option maxHeartbeats 1000000 in
theorem has_pure (b : ByteArray) (c : Int) (hs : b.size ≤ 1000) : Pure Try.prog (fun _ => True) 24 [.string b, .int .u8 c] (.bool (hasB b c)) := by
  intro w0 H hT
  refine L_enter Try.func24 rfl Try.ntmps24 rfl rfl ?_
  refine W_sr ?_
  refine W_assign rfl rfl ?_
  refine W_nil ?_
  refine W_seq ?_
  refine W_sr ?_
  refine W_assign rfl rfl ?_
  refine W_nil ?_
  refine W_block ?_
  refine W_loopC (X := Nat) [(0, _), (1, _)] (fun (i : Nat) => [(5, .int .i64 (i : Int))]) (fun _ => _) (fun _ => _) (fun (i : Nat) => i ≤ b.size ∧ ∀ j, j < i → ∀ r, b[j]? = some r → ((r.toNat : Int) ≠ c)) (fun (i : Nat) => b.size - i) 0 ⟨by omega, fun j hj => by omega⟩ (sub_cons rfl (sub_cons rfl (sub_nil _))) (sub_cons rfl (sub_nil _)) rfl (by repeat (first | exact HSub.refl _ | refine HSub.cons (by repeat (first | exact Take.here _ | apply Take.next | apply Take.app)) ?_ | refine HSub.app (by repeat (first | exact TakeS.here _ | apply TakeS.next | apply TakeS.app)) ?_ | refine HSub.drop ?_ | refine HSub.dropS ?_ | exact HSub.nil _)) ?_
  rintro i ⟨hi, hf⟩
  simp only [List.cons_append, List.nil_append]
  refine W_seq ?_
  refine W_sr ?_
  refine W_move rfl rfl ?_
  refine W_move rfl rfl ?_
  refine W_lens rfl ty9 rfl rfl ?_
  refine W_bin rfl rfl b_lss rfl ?_
  refine W_nil ?_
  refine W_condPS (p := (i : Int) < (b.size : Int)) rfl (by simp) (fun c0 => ?_) (fun c0 => ?_)
  · skip
    refine W_skip ?_
    refine W_seq ?_
    refine W_block ?_
    refine W_sr ?_
    refine W_move rfl rfl ?_
    refine W_move rfl rfl ?_
    obtain ⟨r, hb⟩ : ∃ r, b[i]? = some r := ⟨_, getElem?_pos b i (by omega)⟩
    refine W_indexS (j := i) rfl rfl ty9 rfl hb rfl rfl ?_
    refine W_move rfl rfl ?_
    refine W_bin rfl rfl b_eql rfl ?_
    refine W_nil ?_
    refine W_condS rfl (fun c1 => ?_) (fun c1 => ?_)
    · simp only [cond_true, cond_false, Bool.and_eq_true, Bool.or_eq_true, Bool.and_eq_false_iff, Bool.or_eq_false_iff, decide_eq_true_eq, decide_eq_false_iff_not, Bool.not_eq_true', Bool.not_eq_false', ne_eq, Decidable.not_not] at c1
      refine W_sr ?_
      refine W_assign rfl rfl ?_
      refine W_nil ?_
      refine W_ret1m (H2 := H) Try.results24 rfl (.nil _) (by repeat (first | exact HSub.refl _ | refine HSub.cons (by repeat (first | exact Take.here _ | apply Take.next | apply Take.app)) ?_ | refine HSub.app (by repeat (first | exact TakeS.here _ | apply TakeS.next | apply TakeS.app)) ?_ | refine HSub.drop ?_ | refine HSub.dropS ?_ | exact HSub.nil _)) ?_
      exact ⟨congrArg Value.bool (Eq.symm (by refine any_at (i := i) (by omega) ?_; rw [hb]; simpa using c1)), rfl⟩
    · simp only [cond_true, cond_false, Bool.and_eq_true, Bool.or_eq_true, Bool.and_eq_false_iff, Bool.or_eq_false_iff, decide_eq_true_eq, decide_eq_false_iff_not, Bool.not_eq_true', Bool.not_eq_false', ne_eq, Decidable.not_not] at c1
      refine W_skip ?_
      refine W_blk ?_
      refine W_region ?_
      refine W_move rfl rfl ?_
      refine W_bin rfl rfl (b_add (m := ((i + 1 : Nat) : Int)) ((i64w (by omega)).trans (by omega))) rfl ?_
      refine W_assign rfl rfl ?_
      refine W_nil ?_
      refine W_again (i + 1) ⟨by omega, fun j hj r hr => by
        rcases (show j < i ∨ j = i by omega) with h | rfl
        · exact hf j h r hr
        · rw [hb] at hr; cases hr; exact c1⟩ (by omega) (sub_cons rfl (sub_cons rfl (sub_cons rfl (sub_nil _)))) rfl (by repeat (first | exact HSub.refl _ | refine HSub.cons (by repeat (first | exact Take.here _ | apply Take.next | apply Take.app)) ?_ | refine HSub.app (by repeat (first | exact TakeS.here _ | apply TakeS.next | apply TakeS.app)) ?_ | refine HSub.drop ?_ | refine HSub.dropS ?_ | exact HSub.nil _))
  · skip
    refine W_exit rfl ?_
    refine W_sr ?_
    refine W_assign rfl rfl ?_
    refine W_nil ?_
    refine W_ret1m (H2 := H) Try.results24 rfl (.nil _) (by repeat (first | exact HSub.refl _ | refine HSub.cons (by repeat (first | exact Take.here _ | apply Take.next | apply Take.app)) ?_ | refine HSub.app (by repeat (first | exact TakeS.here _ | apply TakeS.next | apply TakeS.app)) ?_ | refine HSub.drop ?_ | refine HSub.dropS ?_ | exact HSub.nil _)) ?_
    exact ⟨congrArg Value.bool (Eq.symm (hasB_f fun j hj => hf j (by omega))), rfl⟩
set_option maxHeartbeats 1000000 in
theorem long_pure (k n : Int) (hn : 0 ≤ n) : Pure Try.prog (fun _ => True) 26 [.int .i64 k, .int .i64 n] (.bool (rawOk k n)) := by
  intro w0 H hT
  refine L_enter Try.func26 rfl Try.ntmps26 rfl rfl ?_
  refine W_sr ?_
  refine W_assign rfl rfl ?_
  refine W_nil ?_
  refine W_seq ?_
  refine W_sr ?_
  refine W_move rfl rfl ?_
  refine W_bin rfl rfl b_eql rfl ?_
  refine W_nil ?_
  refine W_condS rfl (fun c0 => ?_) (fun c0 => ?_)
  · simp only [cond_true, cond_false, Bool.and_eq_true, Bool.or_eq_true, Bool.and_eq_false_iff, Bool.or_eq_false_iff, decide_eq_true_eq, decide_eq_false_iff_not, Bool.not_eq_true', Bool.not_eq_false', ne_eq, Decidable.not_not] at c0
    refine W_sr ?_
    refine W_move rfl rfl ?_
    refine W_bin rfl rfl b_geq rfl ?_
    refine W_move rfl rfl ?_
    apply W_and
    iterate 4 exact rfl
    case h1 =>
      intro hg2
      refine W_gyes rfl rfl ?_
      refine W_move rfl rfl ?_
      refine W_gyes rfl rfl ?_
      refine W_bin rfl rfl b_leq rfl ?_
      exact W_met rfl (by repeat (first | exact .refl | refine .cons rfl ?_))
    refine W_assign rfl rfl ?_
    refine W_nil ?_
    refine W_ret1m Try.results26 rfl (.nil _) (.refl _) ?_
    exact ⟨by simp [rawOk, *], rfl⟩
  · simp only [cond_true, cond_false, Bool.and_eq_true, Bool.or_eq_true, Bool.and_eq_false_iff, Bool.or_eq_false_iff, decide_eq_true_eq, decide_eq_false_iff_not, Bool.not_eq_true', Bool.not_eq_false', ne_eq, Decidable.not_not] at c0
    refine W_skip ?_
    refine W_seq ?_
    refine W_sr ?_
    refine W_move rfl rfl ?_
    refine W_bin rfl rfl b_eql rfl ?_
    refine W_nil ?_
    refine W_condS rfl (fun c1 => ?_) (fun c1 => ?_)
    · simp only [cond_true, cond_false, Bool.and_eq_true, Bool.or_eq_true, Bool.and_eq_false_iff, Bool.or_eq_false_iff, decide_eq_true_eq, decide_eq_false_iff_not, Bool.not_eq_true', Bool.not_eq_false', ne_eq, Decidable.not_not] at c1
      refine W_sr ?_
      refine W_move rfl rfl ?_
      refine W_bin rfl rfl b_geq rfl ?_
      refine W_move rfl rfl ?_
      apply W_and
      iterate 4 exact rfl
      case h1 =>
        intro hg2
        refine W_gyes rfl rfl ?_
        refine W_move rfl rfl ?_
        refine W_gyes rfl rfl ?_
        refine W_bin rfl rfl b_leq rfl ?_
        exact W_met rfl (by repeat (first | exact .refl | refine .cons rfl ?_))
      refine W_move rfl rfl ?_
      apply W_and
      iterate 4 exact rfl
      case h1 =>
        intro hg6
        refine W_gyes rfl rfl ?_
        refine W_move rfl rfl ?_
        refine W_gyes rfl rfl ?_
        refine W_bin rfl rfl (b_rem (by decide) (Int.tmod_eq_emod_of_nonneg hn)) rfl ?_
        refine W_gyes rfl rfl ?_
        refine W_bin rfl rfl b_eql rfl ?_
        exact W_met rfl (by repeat (first | exact .refl | refine .cons rfl ?_))
      refine W_assign rfl rfl ?_
      refine W_nil ?_
      refine W_ret1m Try.results26 rfl (.nil _) (.refl _) ?_
      exact ⟨by simp [rawOk, *], rfl⟩
    · simp only [cond_true, cond_false, Bool.and_eq_true, Bool.or_eq_true, Bool.and_eq_false_iff, Bool.or_eq_false_iff, decide_eq_true_eq, decide_eq_false_iff_not, Bool.not_eq_true', Bool.not_eq_false', ne_eq, Decidable.not_not] at c1
      refine W_skip ?_
      refine W_sr ?_
      refine W_move rfl rfl ?_
      refine W_bin rfl rfl b_eql rfl ?_
      refine W_assign rfl rfl ?_
      refine W_nil ?_
      refine W_ret1m Try.results26 rfl (.nil _) (.refl _) ?_
      exact ⟨by simp [rawOk, *], rfl⟩
end Go.Proofs.Ytkhkagjbeilbgaa
