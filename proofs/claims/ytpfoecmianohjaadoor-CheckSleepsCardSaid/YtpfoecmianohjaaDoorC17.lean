/-
  Own work: contracts of functions that the statement reaches, and plain facts on what they compute; each theorem says its conditions.
-/
import Derived.Test.YtpfoecmianohjaaDoorC16
set_option linter.all false
set_option linter.unusedSimpArgs false
set_option linter.unusedVariables false
namespace Go.Proofs.YtpfoecmianohjaaDoor
open Go Go.Sl
attribute [local irreducible] W

/-! ## Programs that sleep, and that don't -/
theorem wrong_sleep (x : Ins) (n k : Nat) : wrongE x n k true = if wrongE x n k false = 17 then (if (decide ((k : Int) = (n : Int) - 1) && decide (x.op ≠ 73) && decide (x.op ≠ 32)) = true then 10 else 0) else wrongE x n k false := by
  unfold wrongE
  cases h1 : (!withinB x n k) <;> cases h2 : (decide (x.op = 72) && !helpB x.imm) <;> cases h3 : (decide (x.op = 72) && decide (x.imm = 16)) <;> cases h4 : (decide ((k : Int) = (n : Int) - 1) && decide (x.op ≠ 73) && decide (x.op ≠ 32)) <;> simp
theorem first_some_iff {f : Nat → Int} {n : Nat} : firstE f n = none ↔ ∀ i, i < n → f i = 0 := by
  unfold firstE
  rw [List.find?_eq_none]
  constructor
  · intro h i hi; have := h i (List.mem_range.2 hi); simpa using this
  · intro h i hi; simp [h i (List.mem_range.1 hi)]
theorem first_ne {f : Nat → Int} {n k : Nat} (h : firstE f n = some k) : k < n ∧ f k ≠ 0 := by
  unfold firstE at h
  have h1 := List.find?_some h
  have h2 := List.mem_of_find?_eq_some h
  exact ⟨List.mem_range.1 h2, by simpa using h1⟩
/-- right: all looks are -/
theorem right_iff {l : List Ins} {s : Bool} : (chkR l s).2 = 0 ↔ ¬ (l.length = 0 ∨ 64 < l.length) ∧ ∀ j, j < 3 → ∀ i, i < l.length → lookE l s j i = 0 := by
  constructor
  · intro h
    by_cases hl : l.length = 0 ∨ 64 < l.length
    · rw [chkR_long hl] at h; simp at h
    · refine ⟨hl, ?_⟩
      unfold chkR at h
      rw [if_neg hl] at h
      cases h0 : firstE (lookE l s 0) l.length with
      | some k => rw [h0] at h; exact absurd h (first_ne h0).2
      | none =>
        rw [h0] at h
        cases h1 : firstE (lookE l s 1) l.length with
        | some k => rw [h1] at h; exact absurd h (first_ne h1).2
        | none =>
          rw [h1] at h
          cases h2 : firstE (lookE l s 2) l.length with
          | some k => rw [h2] at h; exact absurd h (first_ne h2).2
          | none =>
            intro j hj i hi
            rcases (show j = 0 ∨ j = 1 ∨ j = 2 by omega) with rfl | rfl | rfl
            · exact first_some_iff.1 h0 i hi
            · exact first_some_iff.1 h1 i hi
            · exact first_some_iff.1 h2 i hi
  · rintro ⟨hl, h⟩
    rw [chkR_right hl h]
theorem look_same {l : List Ins} {j i : Nat} (h : j ≠ 1) : lookE l true j i = lookE l false j i := by unfold lookE; simp [h]
theorem sleep_weaker {l : List Ins} (h : (chkR l false).2 = 0) : (chkR l true).2 = 0 := by
  rw [right_iff] at h ⊢
  refine ⟨h.1, fun j hj i hi => ?_⟩
  by_cases hj1 : j = 1
  · subst hj1
    have hx : l[i]? = some (l[i]'hi) := List.getElem?_eq_getElem hi
    have h1 := h.2 1 (by omega) i hi
    rw [look1 hx] at h1 ⊢
    rw [wrong_sleep, h1]; rfl
  · rw [look_same hj1]; exact h.2 j hj i hi
/-- which helpers are named -/
theorem calls_bit : ∀ (l : List Ins) (m i : Nat), i < 64 → ((l.foldl (fun m x => bif helpB x.imm && decide (x.op = 72) then m ||| bitN x.imm else m) m).testBit i = true ↔ m.testBit i = true ∨ ∃ x ∈ l, helpB x.imm = true ∧ x.op = 72 ∧ x.imm = (i : Int))
  | [], m, i, _ => by simp
  | x :: l, m, i, hi => by
    rw [List.foldl_cons, calls_bit l _ i hi]
    have hb : (bif helpB x.imm && decide (x.op = 72) then m ||| bitN x.imm else m).testBit i = true ↔ m.testBit i = true ∨ (helpB x.imm = true ∧ x.op = 72 ∧ x.imm = (i : Int)) := by
      by_cases hh : helpB x.imm = true ∧ x.op = 72
      · have hz : 0 ≤ x.imm ∧ x.imm < 64 := by have := hh.1; unfold helpB at this; simp at this; omega
        have e : (helpB x.imm && decide (x.op = 72)) = true := by simp [hh]
        rw [e]
        show (m ||| bitN x.imm).testBit i = true ↔ _
        rw [bit_or hz, Bool.or_eq_true, decide_eq_true_eq]
        constructor
        · rintro (h | h)
          · exact .inl h
          · exact .inr ⟨hh.1, hh.2, by omega⟩
        · rintro (h | ⟨_, _, h⟩)
          · exact .inl h
          · exact .inr (by omega)
      · have e : (helpB x.imm && decide (x.op = 72)) = false := by rw [← Bool.not_eq_true]; simpa using hh
        rw [e]
        show m.testBit i = true ↔ _
        constructor
        · exact .inl
        · rintro (h | ⟨h1, h2, _⟩)
          · exact h
          · exact absurd ⟨h1, h2⟩ hh
    rw [hb]
    constructor
    · rintro ((h | h) | ⟨y, hy, h⟩)
      · exact .inl h
      · exact .inr ⟨x, List.mem_cons_self, h⟩
      · exact .inr ⟨y, List.mem_cons_of_mem _ hy, h⟩
    · rintro (h | ⟨y, hy, h⟩)
      · exact .inl (.inl h)
      · rcases List.mem_cons.1 hy with rfl | hy
        · exact .inl (.inr h)
        · exact .inr ⟨y, hy, h⟩
theorem calls_pause (l : List Ins) : hasN (callsN l) 16 = true ↔ ∃ x ∈ l, x.op = 72 ∧ x.imm = 16 := by
  unfold hasN goodB
  have h := calls_bit l 0 16 (by decide)
  rw [show (decide ((0 : Int) ≤ 16) && decide ((16 : Int) < 64)) = true by decide, Bool.true_and]
  show (callsN l).testBit 16 = true ↔ _
  unfold callsN
  rw [h]
  simp only [Nat.zero_testBit, Bool.false_eq_true, false_or]
  constructor
  · rintro ⟨x, hx, _, h2, h3⟩; exact ⟨x, hx, h2, h3⟩
  · rintro ⟨x, hx, h2, h3⟩; exact ⟨x, hx, by rw [h3]; decide, h2, h3⟩
theorem sleep_pause {l : List Ins} (h : (chkR l true).2 = 0) : ((chkR l false).2 = 0) ↔ hasN (callsN l) 16 = false := by
  rw [← Bool.not_eq_true, calls_pause]
  rw [right_iff] at h ⊢
  have hat : ∀ i (hi : i < l.length), lookE l false 1 i = 0 ↔ ¬ ((l[i]'hi).op = 72 ∧ (l[i]'hi).imm = 16) := fun i hi => by
    have hx : l[i]? = some (l[i]'hi) := List.getElem?_eq_getElem hi
    have h1 := h.2 1 (by omega) i hi
    rw [look1 hx] at h1 ⊢
    generalize l[i] = x at *
    unfold wrongE at h1 ⊢
    cases g1 : (!withinB x l.length i)
    · rw [g1] at h1
      cases g2 : (decide (x.op = 72) && !helpB x.imm)
      · rw [g2] at h1
        by_cases g3 : x.op = 72 ∧ x.imm = 16
        · simp [g3]
        · have e3 : (decide (x.op = 72) && decide (x.imm = 16) && !false) = false := by rw [← Bool.not_eq_true]; simpa using g3
          have e4 : (decide (x.op = 72) && decide (x.imm = 16) && !true) = false := by simp
          rw [e4] at h1
          rw [e3]
          simp only [Bool.false_eq_true, if_false] at h1 ⊢
          exact ⟨fun _ => g3, fun _ => h1⟩
      · rw [g2] at h1; simp at h1
    · rw [g1] at h1; simp at h1
  constructor
  · rintro ⟨_, hr⟩ ⟨x, hx, h2, h3⟩
    obtain ⟨i, hi, rfl⟩ := List.getElem_of_mem hx
    exact (hat i hi).1 (hr 1 (by omega) i hi) ⟨h2, h3⟩
  · intro hno
    refine ⟨h.1, fun j hj i hi => ?_⟩
    by_cases hj1 : j = 1
    · subst hj1
      exact (hat i hi).2 (fun hx => hno ⟨_, List.getElem_mem hi, hx⟩)
    · rw [← look_same hj1]; exact h.2 j hj i hi
set_option maxHeartbeats 1000000 in
theorem checkSleeps_pure {l : List Ins} {ad : Option Addr} {cap : Nat} (hl : InsOk l) (hcap : l.length ≤ cap) : Pure Tryd.prog (fun w => Tab w ∧ InRow w ad (insRow l)) 12 [.slice ad l.length cap] (.bool true) := by
  intro w0 H hT
  have hTT := hT
  clear hT
  obtain ⟨hT, hrow0⟩ := hTT
  obtain ⟨c, hc⟩ : ∃ c, c = l.take 64 := ⟨_, rfl⟩
  have hce : l.take ((64 : Int)).toNat = c := hc.symm
  have hcl : c.length = min 64 l.length := by rw [hc, List.length_take]
  have hcok : InsOk c := by rw [hc]; exact fun x hx => hl x (List.mem_of_mem_take hx)
  have hrow : Holds w0 H ad (insRow l) := Holds.old hrow0
  refine L_enter Tryd.func12 rfl Tryd.ntmps12 rfl rfl ?_
  refine W_sr ?_
  refine W_assign rfl rfl ?_
  refine W_nil ?_
  refine W_sr ?_
  refine W_move rfl rfl ?_
  refine W_call (.cons rfl (.cons rfl .nil)) Tryd.call26 rfl (code_L l 64 (by omega) (hrow.up (by repeat (first | exact HSub.refl _ | refine HSub.cons (by repeat (first | exact Take.here _ | apply Take.next | apply Take.app)) ?_ | refine HSub.app (by repeat (first | exact TakeS.here _ | apply TakeS.next | apply TakeS.app)) ?_ | refine HSub.drop ?_ | refine HSub.dropS ?_ | exact HSub.nil _))) hT) ?_
  rintro v H' ⟨HBc, hOc, rfl⟩
  rw [show l.take ((64 : Int)).toNat = c from hce] at hOc
  obtain ⟨adc, capc, rfl, hcc, hcm, _⟩ := Holds.of_own (w0 := w0) (H := HBc ++ H) hOc (fun p hp => List.mem_append_left _ hp)
  have hrc : ∀ {H'}, HSub H' (HBc ++ H) → Holds w0 H' adc (insRow c) := fun hs => by
    obtain ⟨ad', cap', he, _, _, hh⟩ := Holds.of_own (w0 := w0) (H := HBc ++ H) hOc (fun p hp => List.mem_append_left _ hp)
    cases he; exact hh.up hs
  refine W_assign rfl rfl ?_
  refine W_nil ?_
  refine W_sr ?_
  refine W_move rfl rfl ?_
  refine W_build ty51 pl51 (.cons rfl rfl rfl rfl rfl (.cons rfl rfl rfl rfl rfl .nil)) rfl (by simp only [fillL, spliceL, Value.cells, List.take_zero, List.take_succ_cons, List.take_nil, List.drop_zero, List.drop_succ_cons, List.drop_nil, List.nil_append, List.cons_append, List.append_nil, List.length_cons, List.length_nil, Nat.zero_add, Nat.reduceAdd, List.toList_toArray]; rfl) rfl ?_
  refine W_callq (.cons rfl .nil) Tryd.call25 rfl (check_q (s := false) hcok (by omega) hcc (hrc (.refl _)) hT) ?_
  refine W_move rfl rfl ?_
  refine W_extract rfl rfl rfl ?_
  refine W_extract rfl rfl rfl ?_
  refine W_assign rfl rfl ?_
  refine W_assign rfl rfl ?_
  refine W_nil ?_
  refine W_sr ?_
  refine W_move rfl rfl ?_
  refine W_build ty51 pl51 (.cons rfl rfl rfl rfl rfl (.cons rfl rfl rfl rfl rfl .nil)) rfl (by simp only [fillL, spliceL, Value.cells, List.take_zero, List.take_succ_cons, List.take_nil, List.drop_zero, List.drop_succ_cons, List.drop_nil, List.nil_append, List.cons_append, List.append_nil, List.length_cons, List.length_nil, Nat.zero_add, Nat.reduceAdd, List.toList_toArray]; rfl) rfl ?_
  refine W_callq (.cons rfl .nil) Tryd.call25 rfl (check_q (s := true) hcok (by omega) hcc (hrc (.refl _)) hT) ?_
  refine W_move rfl rfl ?_
  refine W_extract rfl rfl rfl ?_
  refine W_extract rfl rfl rfl ?_
  refine W_assign rfl rfl ?_
  refine W_assign rfl rfl ?_
  refine W_nil ?_
  refine W_seq ?_
  refine W_sr ?_
  refine W_move rfl rfl ?_
  refine W_bin rfl rfl b_eql rfl ?_
  refine W_move rfl rfl ?_
  apply W_and
  iterate 4 exact rfl
  case h1 =>
    intro hg2
    refine W_gyes rfl rfl ?_
    refine W_move rfl rfl ?_
    refine W_gyes rfl rfl ?_
    refine W_bin rfl rfl b_neq rfl ?_
    exact W_met rfl (by repeat (first | exact .refl | refine .cons rfl ?_))
  refine W_nil ?_
  refine W_condF rfl (by by_cases h : (chkR c false).2 = 0 <;> simp [h, sleep_weaker]) ?_
  refine W_skip ?_
  refine W_sr ?_
  refine W_callp .nil Tryd.call23 rfl hT known17_pure ?_
  refine W_move rfl rfl ?_
  apply W_and
  iterate 4 exact rfl
  case h1 =>
    intro hg1
    refine W_gyes rfl rfl ?_
    refine W_move rfl rfl ?_
    refine W_gyes rfl rfl ?_
    refine W_bin rfl rfl b_neq rfl ?_
    refine W_gyes rfl rfl ?_
    refine W_move rfl rfl ?_
    apply W_or
    iterate 4 exact rfl
    case h1 =>
      intro hg4
      refine W_gyes rfl rfl ?_
      refine W_move rfl rfl ?_
      refine W_gyes rfl rfl ?_
      refine W_bin rfl rfl b_eql rfl ?_
      refine W_gyes rfl rfl ?_
      refine W_move rfl rfl ?_
      refine W_gyes rfl rfl ?_
      refine W_callq (.cons rfl .nil) Tryd.call33 rfl (calls_q c hcok (by omega) (hrc (.refl _)) hT) ?_
      refine W_gyes rfl rfl ?_
      refine W_callp (.cons rfl (.cons rfl .nil)) Tryd.call34 rfl hT (has_m _ _ (callsN_ok _ _ (by unfold MaskOk; decide))) ?_
      refine W_gyes rfl rfl ?_
      refine W_not rfl rfl ?_
      refine W_gyes rfl rfl ?_
      refine W_beq rfl rfl ty4 rfl ?_
      exact W_met rfl (by repeat (first | exact .refl | refine .cons rfl ?_))
    exact W_met rfl (by repeat (first | exact .refl | refine .cons rfl ?_))
  refine W_assign rfl rfl ?_
  refine W_nil ?_
  refine W_ret1m (H2 := H) Tryd.results12 rfl (.nil _) (by repeat (first | exact HSub.refl _ | refine HSub.cons (by repeat (first | exact Take.here _ | apply Take.next | apply Take.app)) ?_ | refine HSub.app (by repeat (first | exact TakeS.here _ | apply TakeS.next | apply TakeS.app)) ?_ | refine HSub.drop ?_ | refine HSub.dropS ?_ | exact HSub.nil _)) ?_
  exact ⟨by by_cases h : (chkR c true).2 = 0
            · have h2 := sleep_pause h
              cases hp : hasN (callsN c) 16 <;> simp_all
            · simp [h], rfl⟩
end Go.Proofs.YtpfoecmianohjaaDoor
