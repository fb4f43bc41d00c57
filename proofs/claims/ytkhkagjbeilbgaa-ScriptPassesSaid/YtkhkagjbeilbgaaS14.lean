/-
  Own work: contracts of functions that the statement reaches, and plain facts on what they compute; each theorem says its conditions.
-/
import Derived.Test.YtkhkagjbeilbgaaS13
set_option linter.all false
set_option linter.unusedSimpArgs false
set_option linter.unusedVariables false
namespace Go.Proofs.Ytkhkagjbeilbgaa
open Go Go.Sl
attribute [local irreducible] W
open Go.Script

/-! ## A kind's parts by letters -/
def JL (k : Int) : List Nat := (List.range 5).filter fun j => decide ((shW k).getD j 0 ≠ 0)
def Jn (k : Int) (i : Nat) : Nat := (JL k).getD i 5
def letter (k : Int) (i : Nat) : Int := (((usesB k)[i]?.getD 0).toNat : Int)
def letOk (c : Int) (j w : Nat) : Prop := (c = 97 ∧ j = 0 ∧ w = 1) ∨ (c = 98 ∧ j = 1 ∧ w = 1) ∨ (c = 99 ∧ j = 2 ∧ w = 1) ∨ (c = 67 ∧ j = 2 ∧ w = 2) ∨ (c = 120 ∧ j = 3 ∧ w = 8) ∨ (c = 121 ∧ j = 4 ∧ w = 8)
instance (c : Int) (j w : Nat) : Decidable (letOk c j w) := by unfold letOk; exact inferInstance
def letB (k : Int) : Bool := decide ((usesB k).size = (JL k).length) && decide ((JL k).length ≤ 5) && decide (Jn k (JL k).length = 5) && decide (∀ j, j < Jn k 0 → (shW k).getD j 0 = 0) &&
  decide (∀ i, i < (JL k).length → letOk (letter k i) (Jn k i) ((shW k).getD (Jn k i) 0) ∧ Jn k i < Jn k (i + 1) ∧ Jn k i < 5 ∧ ∀ j, j < Jn k (i + 1) → Jn k i < j → (shW k).getD j 0 = 0)
theorem let_all : ∀ n : Fin 18, letB (n.val : Int) = true := by decide +kernel
structure LetF (k : Int) : Prop where
  size : (usesB k).size = (JL k).length
  le : (JL k).length ≤ 5
  last : Jn k (JL k).length = 5
  first : ∀ j, j < Jn k 0 → (shW k).getD j 0 = 0
  at_ : ∀ i, i < (JL k).length → letOk (letter k i) (Jn k i) ((shW k).getD (Jn k i) 0) ∧ Jn k i < Jn k (i + 1) ∧ Jn k i < 5 ∧ ∀ j, j < Jn k (i + 1) → Jn k i < j → (shW k).getD j 0 = 0
theorem letF {k : Int} (hk : isK k = true) : LetF k := by
  obtain ⟨n, rfl⟩ := isK_nat hk
  have h := let_all n
  unfold letB at h
  simp only [Bool.and_eq_true, decide_eq_true_eq] at h
  exact ⟨h.1.1.1.1, h.1.1.1.2, h.1.1.2, h.1.2, h.2⟩
theorem letter_eq {k : Int} {i : Nat} {r : UInt8} (h : (usesB k)[i]? = some r) : letter k i = (r.toNat : Int) := by unfold letter; rw [h]; rfl
def ptl (p : List Int) (w : List Nat) (m : Nat) : List Int := (List.range m).flatMap fun j => lowL (p.getD j 0) (w.getD j 0)
theorem ptl_skip {p : List Int} {w : List Nat} {a b : Nat} (hab : a ≤ b) (h : ∀ j, j < b → a ≤ j → w.getD j 0 = 0) : ptl p w b = ptl p w a := by
  induction b with
  | zero => obtain rfl : a = 0 := by omega
            rfl
  | succ b ih =>
    by_cases e : a = b + 1
    · subst e; rfl
    · unfold ptl
      rw [ptl_succ]
      have h0 := h b (by omega) (by omega)
      rw [h0]
      show _ ++ [] = _
      rw [List.append_nil]
      exact ih (by omega) (fun j hj ha => h j (by omega) ha)
theorem sum_skip {w : List Nat} {a b : Nat} (hab : a ≤ b) (h : ∀ j, j < b → a ≤ j → w.getD j 0 = 0) : sumL (w.take b) = sumL (w.take a) := by
  induction b with
  | zero => obtain rfl : a = 0 := by omega
            rfl
  | succ b ih =>
    by_cases e : a = b + 1
    · subst e; rfl
    · have ih := ih (by omega) (fun j hj ha => h j (by omega) ha)
      by_cases hb : b < w.length
      · rw [sum_take hb, h b (by omega) (by omega), ih]; rfl
      · rw [List.take_of_length_le (by omega)]; rw [List.take_of_length_le (by omega)] at ih; exact ih
theorem ptl_step {p : List Int} {k : Int} {i : Nat} (hk : isK k = true) (hi : i < (JL k).length) : ptl p (shW k) (Jn k (i + 1)) = ptl p (shW k) (Jn k i) ++ lowL (p.getD (Jn k i) 0) ((shW k).getD (Jn k i) 0) := by
  obtain ⟨_, h2, _, h4⟩ := (letF hk).at_ i hi
  rw [ptl_skip (a := Jn k i + 1) (by omega) (fun j hj ha => h4 j hj (by omega))]
  exact ptl_succ _
theorem ptl_first {p : List Int} {k : Int} (hk : isK k = true) : ptl p (shW k) (Jn k 0) = [] := by
  rw [ptl_skip (a := 0) (Nat.zero_le _) (fun j hj _ => (letF hk).first j hj)]; rfl
theorem ptl_last {p : List Int} {k : Int} (hk : isK k = true) : ptl p (shW k) (Jn k (JL k).length) = partsL p (shW k) := by rw [(letF hk).last]; rfl
theorem ptl_200 (p : List Int) {k : Int} (hk : isK k = true) {m : Nat} (hm : m ≤ 5) : (ptl p (shW k) m).length ≤ 200 := ptl_len (p := p) (w := shW k) (wk := shW k) rfl rfl (shW_20 hk) hm
theorem Jn_le {k : Int} (hk : isK k = true) {i : Nat} (hi : i ≤ (JL k).length) : Jn k i ≤ 5 := by
  rcases Nat.lt_or_ge i (JL k).length with h | h
  · exact Nat.le_of_lt ((letF hk).at_ i h).2.2.1
  · rw [show i = (JL k).length by omega, (letF hk).last]; exact Nat.le_refl _
theorem size_let {c : Int} {j w : Nat} (h : letOk c j w) : (if c = 67 then (2 : Int) else if c = 120 ∨ c = 121 then 8 else 1) = (w : Int) := by
  rcases h with ⟨rfl, rfl, rfl⟩ | ⟨rfl, rfl, rfl⟩ | ⟨rfl, rfl, rfl⟩ | ⟨rfl, rfl, rfl⟩ | ⟨rfl, rfl, rfl⟩ | ⟨rfl, rfl, rfl⟩ <;> rfl
theorem let_w {c : Int} {j w : Nat} (h : letOk c j w) : w ≤ 8 ∧ j ≤ 4 := by
  rcases h with ⟨rfl, rfl, rfl⟩ | ⟨rfl, rfl, rfl⟩ | ⟨rfl, rfl, rfl⟩ | ⟨rfl, rfl, rfl⟩ | ⟨rfl, rfl, rfl⟩ | ⟨rfl, rfl, rfl⟩ <;> decide
set_option maxHeartbeats 4000000 in
theorem rbytes_L {w0 : World} {H : Heap} {s : St} {ad : Option Addr} {cap : Nat} (hk : isK s.kind = true) (ho : StOk s) (hl : s.raw.length ≤ 1000) (hrow : Holds w0 H ad (bytesV s.raw))  : LCalls Try.prog w0 14 #[.agg (stV s (.slice ad s.raw.length cap)).toArray] (H) (fun v H' => ∃ HB, OwnS 5 1 v (enc s).length (bytesV (enc s)) HB ∧ H' = HB ++ H) := by
  have hk17 : 0 ≤ s.kind ∧ s.kind ≤ 17 := by simpa [isK] using hk
  refine L_enter (l := [.agg (stV s (.slice ad s.raw.length cap)).toArray]) Try.func14 rfl Try.ntmps14 rfl rfl ?_
  refine W_sr ?_
  refine W_box rfl rfl rfl (fun b1 => ?_)
  refine W_assign rfl rfl ?_
  refine W_nil ?_
  refine W_sr ?_
  refine W_fieldAddr rfl fld33_0 (by decide) rfl ?_
  refine W_load rfl ty3 rfl (Cell.own (by repeat (first | exact List.mem_cons_self | apply List.mem_cons_of_mem | apply List.mem_append_right)) rfl) rfl ?_
  refine W_callp (.cons rfl .nil) Try.call23 rfl (T := fun _ => True) trivial (refUses_pure _ hk) ?_
  refine W_assign rfl rfl ?_
  refine W_nil ?_
  refine W_sr ?_
  refine W_assign rfl rfl ?_
  refine W_nil ?_
  refine W_seq ?_
  refine W_sr ?_
  refine W_assign rfl rfl ?_
  refine W_nil ?_
  refine W_block ?_
  refine W_loopC (X := (Nat × Value × Heap)) [(1, _), (3, _)] (fun (x : (Nat × Value × Heap)) => [(4, x.2.1), (5, .int .i64 (x.1 : Int))]) (fun _ => _) (fun (x : (Nat × Value × Heap)) => x.2.2 ++ ((b1, .cells 33 7 (stV s (.slice ad s.raw.length cap))) :: H)) (fun (x : (Nat × Value × Heap)) => x.1 ≤ (JL s.kind).length ∧ OwnS 5 1 x.2.1 (ptl s.parts (shW s.kind) (Jn s.kind x.1)).length (bytesV (ptl s.parts (shW s.kind) (Jn s.kind x.1))) x.2.2) (fun (x : (Nat × Value × Heap)) => (JL s.kind).length - x.1) (0, .slice none 0 0, []) ⟨by simp, by show OwnS _ _ _ (ptl s.parts (shW s.kind) (Jn s.kind 0)).length (bytesV (ptl s.parts (shW s.kind) (Jn s.kind 0))) _; rw [ptl_first hk]; exact .nil⟩ (sub_cons rfl (sub_cons rfl (sub_nil _))) (sub_cons rfl (sub_cons rfl (sub_nil _))) rfl (by repeat (first | exact HSub.refl _ | refine HSub.cons (by repeat (first | exact Take.here _ | apply Take.next | apply Take.app)) ?_ | refine HSub.app (by repeat (first | exact TakeS.here _ | apply TakeS.next | apply TakeS.app)) ?_ | refine HSub.drop ?_ | refine HSub.dropS ?_ | exact HSub.nil _)) ?_
  rintro ⟨i, v, HB⟩ ⟨hi, hO⟩
  dsimp only at hi hO ⊢
  have hJ5 := Jn_le hk hi
  have hJle := (letF hk).le
  have hp200 := ptl_200 s.parts hk hJ5
  simp only [List.cons_append, List.nil_append]
  refine W_seq ?_
  refine W_sr ?_
  refine W_move rfl rfl ?_
  refine W_move rfl rfl ?_
  refine W_lens rfl ty9 rfl rfl ?_
  refine W_bin rfl rfl b_lss rfl ?_
  refine W_nil ?_
  refine W_condPS (p := i < (JL s.kind).length) rfl (by have := (letF hk).size; simp; omega) (fun c0 => ?_) (fun c0 => ?_)
  · skip
    refine W_skip ?_
    refine W_seq ?_
    refine W_block ?_
    refine W_sr ?_
    refine W_fieldAddr rfl fld33_4 (by decide) rfl ?_
    refine W_load rfl ty27 rfl (Cell.own (by repeat (first | exact List.mem_cons_self | apply List.mem_cons_of_mem | apply List.mem_append_right)) rfl) rfl ?_
    refine W_assign rfl rfl ?_
    refine W_nil ?_
    refine W_seq ?_
    refine W_sr ?_
    obtain ⟨hlet, hjl, hj5, _⟩ := (letF hk).at_ i (by omega)
    obtain ⟨r, hr⟩ : ∃ r, (usesB s.kind)[i]? = some r := ⟨_, getElem?_pos (usesB s.kind) i (by rw [(letF hk).size]; omega)⟩
    rw [letter_eq hr] at hlet
    have hw8 := (let_w hlet).1
    refine W_move rfl rfl ?_
    refine W_move rfl rfl ?_
    refine W_indexS (j := i) rfl rfl ty9 rfl hr rfl rfl ?_
    refine W_nil ?_
    refine W_block ?_
    refine W_sr ?_
    refine W_bin rfl rfl b_eql rfl ?_
    refine W_assign rfl rfl ?_
    refine W_nil ?_
    refine W_condJ (p := (r.toNat : Int) = 97) [(1, .pointer (some ⟨b1, 0, none⟩)), (3, .string (usesB s.kind)), (4, v), (5, .int .i64 (i : Int)), (6, .int .u64 (s.parts.getD (Jn s.kind i) 0))] (HB ++ ((b1, .cells 33 7 (stV s (.slice ad s.raw.length cap))) :: H)) rfl (by simp) (fun c1 => ?_) (fun c1 => ?_) ?_
    · skip
      refine W_region ?_
      refine W_fieldAddr rfl fld33_1 (by decide) rfl ?_
      refine W_load rfl ty3 rfl (Cell.own (by repeat (first | exact List.mem_cons_self | apply List.mem_cons_of_mem | apply List.mem_append_right)) rfl) rfl ?_
      refine W_conv rfl ty3 ty27 rfl rfl ?_
      refine W_assign rfl rfl ?_
      refine W_nil ?_
      refine W_joined (sub_cons rfl (sub_cons rfl (sub_cons rfl (sub_cons rfl (sub_cons (by rcases hlet with ⟨h1, h2, h3⟩ | ⟨h1, h2, h3⟩ | ⟨h1, h2, h3⟩ | ⟨h1, h2, h3⟩ | ⟨h1, h2, h3⟩ | ⟨h1, h2, h3⟩ <;> first | (exfalso; omega) | (rw [h2]; simp only [u64_wrap]; rfl) | (rw [h2]; rfl)) (sub_nil _)))))) (by repeat (first | exact HSub.refl _ | refine HSub.cons (by repeat (first | exact Take.here _ | apply Take.next | apply Take.app)) ?_ | refine HSub.app (by repeat (first | exact TakeS.here _ | apply TakeS.next | apply TakeS.app)) ?_ | refine HSub.drop ?_ | refine HSub.dropS ?_ | exact HSub.nil _))
    · skip
      refine W_sr ?_
      refine W_bin rfl rfl b_eql rfl ?_
      refine W_assign rfl rfl ?_
      refine W_nil ?_
      refine W_condS rfl (fun c2 => ?_) (fun c2 => ?_)
      · simp only [cond_true, cond_false, Bool.and_eq_true, Bool.or_eq_true, Bool.and_eq_false_iff, Bool.or_eq_false_iff, decide_eq_true_eq, decide_eq_false_iff_not, Bool.not_eq_true', Bool.not_eq_false', ne_eq, Decidable.not_not] at c2
        refine W_region ?_
        refine W_fieldAddr rfl fld33_2 (by decide) rfl ?_
        refine W_load rfl ty3 rfl (Cell.own (by repeat (first | exact List.mem_cons_self | apply List.mem_cons_of_mem | apply List.mem_append_right)) rfl) rfl ?_
        refine W_conv rfl ty3 ty27 rfl rfl ?_
        refine W_assign rfl rfl ?_
        refine W_nil ?_
        refine W_joined (sub_cons rfl (sub_cons rfl (sub_cons rfl (sub_cons rfl (sub_cons (by rcases hlet with ⟨h1, h2, h3⟩ | ⟨h1, h2, h3⟩ | ⟨h1, h2, h3⟩ | ⟨h1, h2, h3⟩ | ⟨h1, h2, h3⟩ | ⟨h1, h2, h3⟩ <;> first | (exfalso; omega) | (rw [h2]; simp only [u64_wrap]; rfl) | (rw [h2]; rfl)) (sub_nil _)))))) (by repeat (first | exact HSub.refl _ | refine HSub.cons (by repeat (first | exact Take.here _ | apply Take.next | apply Take.app)) ?_ | refine HSub.app (by repeat (first | exact TakeS.here _ | apply TakeS.next | apply TakeS.app)) ?_ | refine HSub.drop ?_ | refine HSub.dropS ?_ | exact HSub.nil _))
      · simp only [cond_true, cond_false, Bool.and_eq_true, Bool.or_eq_true, Bool.and_eq_false_iff, Bool.or_eq_false_iff, decide_eq_true_eq, decide_eq_false_iff_not, Bool.not_eq_true', Bool.not_eq_false', ne_eq, Decidable.not_not] at c2
        refine W_seq ?_
        refine W_sr ?_
        refine W_bin rfl rfl b_eql rfl ?_
        refine W_assign rfl rfl ?_
        refine W_nil ?_
        refine W_condS rfl (fun c3 => ?_) (fun c3 => ?_)
        · simp only [cond_true, cond_false, Bool.and_eq_true, Bool.or_eq_true, Bool.and_eq_false_iff, Bool.or_eq_false_iff, decide_eq_true_eq, decide_eq_false_iff_not, Bool.not_eq_true', Bool.not_eq_false', ne_eq, Decidable.not_not] at c3
          refine W_skip ?_
          refine W_condT rfl rfl ?_
          refine W_region ?_
          refine W_fieldAddr rfl fld33_3 (by decide) rfl ?_
          refine W_load rfl ty3 rfl (Cell.own (by repeat (first | exact List.mem_cons_self | apply List.mem_cons_of_mem | apply List.mem_append_right)) rfl) rfl ?_
          refine W_conv rfl ty3 ty27 rfl rfl ?_
          refine W_assign rfl rfl ?_
          refine W_nil ?_
          refine W_joined (sub_cons rfl (sub_cons rfl (sub_cons rfl (sub_cons rfl (sub_cons (by rcases hlet with ⟨h1, h2, h3⟩ | ⟨h1, h2, h3⟩ | ⟨h1, h2, h3⟩ | ⟨h1, h2, h3⟩ | ⟨h1, h2, h3⟩ | ⟨h1, h2, h3⟩ <;> first | (exfalso; omega) | (rw [h2]; simp only [u64_wrap]; rfl) | (rw [h2]; rfl)) (sub_nil _)))))) (by repeat (first | exact HSub.refl _ | refine HSub.cons (by repeat (first | exact Take.here _ | apply Take.next | apply Take.app)) ?_ | refine HSub.app (by repeat (first | exact TakeS.here _ | apply TakeS.next | apply TakeS.app)) ?_ | refine HSub.drop ?_ | refine HSub.dropS ?_ | exact HSub.nil _))
        · simp only [cond_true, cond_false, Bool.and_eq_true, Bool.or_eq_true, Bool.and_eq_false_iff, Bool.or_eq_false_iff, decide_eq_true_eq, decide_eq_false_iff_not, Bool.not_eq_true', Bool.not_eq_false', ne_eq, Decidable.not_not] at c3
          refine W_region ?_
          refine W_bin rfl rfl b_eql rfl ?_
          refine W_assign rfl rfl ?_
          refine W_nil ?_
          refine W_condS rfl (fun c4 => ?_) (fun c4 => ?_)
          · simp only [cond_true, cond_false, Bool.and_eq_true, Bool.or_eq_true, Bool.and_eq_false_iff, Bool.or_eq_false_iff, decide_eq_true_eq, decide_eq_false_iff_not, Bool.not_eq_true', Bool.not_eq_false', ne_eq, Decidable.not_not] at c4
            refine W_region ?_
            refine W_fieldAddr rfl fld33_3 (by decide) rfl ?_
            refine W_load rfl ty3 rfl (Cell.own (by repeat (first | exact List.mem_cons_self | apply List.mem_cons_of_mem | apply List.mem_append_right)) rfl) rfl ?_
            refine W_conv rfl ty3 ty27 rfl rfl ?_
            refine W_assign rfl rfl ?_
            refine W_nil ?_
            refine W_joined (sub_cons rfl (sub_cons rfl (sub_cons rfl (sub_cons rfl (sub_cons (by rcases hlet with ⟨h1, h2, h3⟩ | ⟨h1, h2, h3⟩ | ⟨h1, h2, h3⟩ | ⟨h1, h2, h3⟩ | ⟨h1, h2, h3⟩ | ⟨h1, h2, h3⟩ <;> first | (exfalso; omega) | (rw [h2]; simp only [u64_wrap]; rfl) | (rw [h2]; rfl)) (sub_nil _)))))) (by repeat (first | exact HSub.refl _ | refine HSub.cons (by repeat (first | exact Take.here _ | apply Take.next | apply Take.app)) ?_ | refine HSub.app (by repeat (first | exact TakeS.here _ | apply TakeS.next | apply TakeS.app)) ?_ | refine HSub.drop ?_ | refine HSub.dropS ?_ | exact HSub.nil _))
          · simp only [cond_true, cond_false, Bool.and_eq_true, Bool.or_eq_true, Bool.and_eq_false_iff, Bool.or_eq_false_iff, decide_eq_true_eq, decide_eq_false_iff_not, Bool.not_eq_true', Bool.not_eq_false', ne_eq, Decidable.not_not] at c4
            refine W_sr ?_
            refine W_bin rfl rfl b_eql rfl ?_
            refine W_assign rfl rfl ?_
            refine W_nil ?_
            refine W_condS rfl (fun c5 => ?_) (fun c5 => ?_)
            · simp only [cond_true, cond_false, Bool.and_eq_true, Bool.or_eq_true, Bool.and_eq_false_iff, Bool.or_eq_false_iff, decide_eq_true_eq, decide_eq_false_iff_not, Bool.not_eq_true', Bool.not_eq_false', ne_eq, Decidable.not_not] at c5
              refine W_region ?_
              refine W_fieldAddr rfl fld33_5 (by decide) rfl ?_
              refine W_load rfl ty27 rfl (Cell.own (by repeat (first | exact List.mem_cons_self | apply List.mem_cons_of_mem | apply List.mem_append_right)) rfl) rfl ?_
              refine W_assign rfl rfl ?_
              refine W_nil ?_
              refine W_joined (sub_cons rfl (sub_cons rfl (sub_cons rfl (sub_cons rfl (sub_cons (by rcases hlet with ⟨h1, h2, h3⟩ | ⟨h1, h2, h3⟩ | ⟨h1, h2, h3⟩ | ⟨h1, h2, h3⟩ | ⟨h1, h2, h3⟩ | ⟨h1, h2, h3⟩ <;> first | (exfalso; omega) | (rw [h2]; simp only [u64_wrap]; rfl) | (rw [h2]; rfl)) (sub_nil _)))))) (by repeat (first | exact HSub.refl _ | refine HSub.cons (by repeat (first | exact Take.here _ | apply Take.next | apply Take.app)) ?_ | refine HSub.app (by repeat (first | exact TakeS.here _ | apply TakeS.next | apply TakeS.app)) ?_ | refine HSub.drop ?_ | refine HSub.dropS ?_ | exact HSub.nil _))
            · simp only [cond_true, cond_false, Bool.and_eq_true, Bool.or_eq_true, Bool.and_eq_false_iff, Bool.or_eq_false_iff, decide_eq_true_eq, decide_eq_false_iff_not, Bool.not_eq_true', Bool.not_eq_false', ne_eq, Decidable.not_not] at c5
              refine W_skip ?_
              refine W_joined (sub_cons rfl (sub_cons rfl (sub_cons rfl (sub_cons rfl (sub_cons (by rcases hlet with ⟨h1, h2, h3⟩ | ⟨h1, h2, h3⟩ | ⟨h1, h2, h3⟩ | ⟨h1, h2, h3⟩ | ⟨h1, h2, h3⟩ | ⟨h1, h2, h3⟩ <;> first | (exfalso; omega) | (rw [h2]; simp only [u64_wrap]; rfl) | (rw [h2]; rfl)) (sub_nil _)))))) (by repeat (first | exact HSub.refl _ | refine HSub.cons (by repeat (first | exact Take.here _ | apply Take.next | apply Take.app)) ?_ | refine HSub.app (by repeat (first | exact TakeS.here _ | apply TakeS.next | apply TakeS.app)) ?_ | refine HSub.drop ?_ | refine HSub.dropS ?_ | exact HSub.nil _))
    skip
    refine W_blk ?_
    refine W_region ?_
    refine W_move rfl rfl ?_
    refine W_move rfl rfl ?_
    refine W_move rfl rfl ?_
    refine W_move rfl rfl ?_
    refine W_indexS (j := i) rfl rfl ty9 rfl hr rfl rfl ?_
    refine W_callp (.cons rfl .nil) Try.call28 rfl (T := fun _ => True) trivial (size_pure _) ?_
    rw [size_let hlet]
    refine W_call (.cons rfl (.cons rfl .nil)) Try.call27 rfl (rnumber_L (parts_wd ho _) _ (by have := (let_w hlet).1; omega)) ?_
    rintro w1 H' ⟨HL1, hL1, rfl⟩
    obtain ⟨al1, cl1, rfl, _, _, hhl1⟩ := Holds.of_own (w0 := w0) (H := HL1 ++ []) hL1 (fun p hp => List.mem_append_left _ hp)
    refine W_append (news := bytesV (lowL (s.parts.getD (Jn s.kind i) 0) ((shW s.kind).getD (Jn s.kind i) 0))) (m := ((shW s.kind).getD (Jn s.kind i) 0)) (HB := HB) (H0 := (b1, .cells 33 7 (stV s (.slice ad s.raw.length cap))) :: H) rfl rfl ty22 ty5 rfl (by decide) hO (by rw [bytesV_len, lowL_len, Nat.mul_one]) (hhl1.up (by repeat (first | exact HSub.refl _ | refine HSub.cons (by repeat (first | exact Take.here _ | apply Take.next | apply Take.app)) ?_ | refine HSub.app (by repeat (first | exact TakeS.here _ | apply TakeS.next | apply TakeS.app)) ?_ | refine HSub.drop ?_ | refine HSub.dropS ?_ | exact HSub.nil _))) (bytesV_one _) (by simp only [maxLen]; omega) (by omega) (by repeat (first | exact HSub.refl _ | refine HSub.cons (by repeat (first | exact Take.here _ | apply Take.next | apply Take.app)) ?_ | refine HSub.app (by repeat (first | exact TakeS.here _ | apply TakeS.next | apply TakeS.app)) ?_ | refine HSub.drop ?_ | refine HSub.dropS ?_ | exact HSub.nil _)) rfl (fun v' HB' hO' => ?_)
    refine W_assign rfl rfl ?_
    refine W_nil ?_
    refine W_blk ?_
    refine W_region ?_
    refine W_move rfl rfl ?_
    refine W_bin rfl rfl (b_add (m := ((i + 1 : Nat) : Int)) ((i64w (by omega)).trans (by omega))) rfl ?_
    refine W_assign rfl rfl ?_
    refine W_nil ?_
    refine W_again (i + 1, v', HB') ⟨by show i + 1 ≤ _; omega, by show OwnS _ _ v' (ptl s.parts (shW s.kind) (Jn s.kind (i + 1))).length (bytesV (ptl s.parts (shW s.kind) (Jn s.kind (i + 1)))) HB'; rw [ptl_step hk (by omega), bytesV_append, List.length_append, lowL_len]; exact hO'⟩ (by show (JL s.kind).length - (i + 1) < (JL s.kind).length - i; omega) (sub_cons rfl (sub_cons rfl (sub_cons rfl (sub_cons rfl (sub_nil _))))) rfl (by repeat (first | exact HSub.refl _ | refine HSub.cons (by repeat (first | exact Take.here _ | apply Take.next | apply Take.app)) ?_ | refine HSub.app (by repeat (first | exact TakeS.here _ | apply TakeS.next | apply TakeS.app)) ?_ | refine HSub.drop ?_ | refine HSub.dropS ?_ | exact HSub.nil _))
  · skip
    refine W_exit rfl ?_
    refine W_sr ?_
    refine W_move rfl rfl ?_
    refine W_fieldAddr rfl fld33_6 (by decide) rfl ?_
    refine W_load rfl ty22 rfl (Cell.own (by repeat (first | exact List.mem_cons_self | apply List.mem_cons_of_mem | apply List.mem_append_right)) rfl) rfl ?_
    obtain rfl : i = (JL s.kind).length := by have := (letF hk).size; omega
    rw [ptl_last hk] at hO
    have hpl := partsL_len s.parts (shW s.kind) (shW_len _)
    have hs20 := shW_20 hk
    refine W_append (news := bytesV s.raw) (m := s.raw.length) (HB := HB) (H0 := (b1, .cells 33 7 (stV s (.slice ad s.raw.length cap))) :: H) rfl rfl ty22 ty5 rfl (by decide) hO (by rw [bytesV_len, Nat.mul_one]) (hrow.up (by repeat (first | exact HSub.refl _ | refine HSub.cons (by repeat (first | exact Take.here _ | apply Take.next | apply Take.app)) ?_ | refine HSub.app (by repeat (first | exact TakeS.here _ | apply TakeS.next | apply TakeS.app)) ?_ | refine HSub.drop ?_ | refine HSub.dropS ?_ | exact HSub.nil _))) (bytesV_one _) (by simp only [maxLen]; omega) (by omega) (by repeat (first | exact HSub.refl _ | refine HSub.cons (by repeat (first | exact Take.here _ | apply Take.next | apply Take.app)) ?_ | refine HSub.app (by repeat (first | exact TakeS.here _ | apply TakeS.next | apply TakeS.app)) ?_ | refine HSub.drop ?_ | refine HSub.dropS ?_ | exact HSub.nil _)) rfl (fun v3 HB3 hO3 => ?_)
    have hO3 : OwnS 5 1 v3 (encB s).length (bytesV (encB s)) HB3 := by unfold encB; rw [bytesV_append, List.length_append]; exact hO3
    have hel : (encB s).length = sumL (shW s.kind) + s.raw.length := by unfold encB; rw [List.length_append, hpl]
    obtain ⟨a3, c3, rfl, hc3, hm3⟩ := hO3.shape
    obtain ⟨a3', c3', e3, _, _, hh3⟩ := Holds.of_own (w0 := w0) (H := HB3 ++ []) hO3 (fun p hp => List.mem_append_left _ hp)
    cases e3
    refine W_assign rfl rfl ?_
    refine W_nil ?_
    refine W_seq ?_
    refine W_cutX (X := (Value × Heap)) (fun x => [(4, .slice a3 (encB s).length c3), (7, x.1)]) (fun x => x.2 ++ (HB3 ++ ((b1, .cells 33 7 (stV s (.slice ad s.raw.length cap))) :: H))) (fun x => OwnS 5 1 x.1 3 (bytesV (s.kind :: lowL ((encB s).length : Nat) 2)) x.2) ?_ ?_
    · skip
      refine W_anyC ((b1, .cells 33 7 (stV s (.slice ad s.raw.length cap))) :: H) (by kernel_rfl) ?_
      refine WC_take 0 (l' := #[true, false, false, false, false, false, false, false, false, false]) rfl (by decide +kernel) (by decide +kernel) (by decide +kernel) rfl (by decide +kernel) (X_fieldAddr rfl fld33_0 (by decide)) rfl ?_
      refine WC_take 1 (l' := #[true, true, false, false, false, false, false, false, false, false]) rfl (by decide +kernel) (by decide +kernel) (by decide +kernel) rfl (by decide +kernel) (X_load rfl ty3 rfl (Cell.own (by repeat (first | exact List.mem_cons_self | apply List.mem_cons_of_mem | apply List.mem_append_right)) rfl)) rfl ?_
      refine WC_take 2 (l' := #[true, true, true, false, false, false, false, false, false, false]) rfl (by decide +kernel) (by decide +kernel) (by decide +kernel) rfl (by decide +kernel) (X_conv rfl ty3 ty5 (m := s.kind) (by rw [u8_wrap]; omega)) rfl ?_
      refine WC_take 4 (l' := #[true, true, true, false, true, false, false, false, false, false]) rfl (by decide +kernel) (by decide +kernel) (by decide +kernel) rfl (by decide +kernel) (X_move rfl) rfl ?_
      refine WC_take 5 (l' := #[true, true, true, false, true, true, false, false, false, false]) rfl (by decide +kernel) (by decide +kernel) (by decide +kernel) rfl (by decide +kernel) (X_len rfl ty22 rfl) rfl ?_
      refine WC_take 6 (l' := #[true, true, true, false, true, true, true, false, false, false]) rfl (by decide +kernel) (by decide +kernel) (by decide +kernel) rfl (by decide +kernel) (X_conv rfl ty3 ty27 (m := ((encB s).length : Int)) (u64_id (by omega))) rfl ?_
      refine WC_two 3 7 (l' := #[true, true, true, true, true, true, true, false, false, false]) (l'' := #[true, true, true, false, true, true, true, true, false, false]) (by repeat (first | exact HSub.refl _ | refine HSub.cons (by repeat (first | exact Take.here _ | apply Take.next | apply Take.app)) ?_ | refine HSub.app (by repeat (first | exact TakeS.here _ | apply TakeS.next | apply TakeS.app)) ?_ | refine HSub.drop ?_ | refine HSub.dropS ?_ | exact HSub.nil _)) (by decide +kernel) rfl rfl (by decide +kernel) (by decide +kernel) ?_ ?_
      · skip
        refine W_buildSlice (l := [.int .u8 s.kind]) ty22 ty5 (.cons rfl rfl rfl rfl rfl .nil) rfl rfl rfl rfl rfl rfl rfl (fun b57 => ?_)
        refine W_nil ?_
        refine WC_goal ?_
        refine WC_one 7 (l' := #[true, true, true, true, true, true, true, true, false, false]) (by repeat (first | exact HSub.refl _ | refine HSub.cons (by repeat (first | exact Take.here _ | apply Take.next | apply Take.app)) ?_ | refine HSub.app (by repeat (first | exact TakeS.here _ | apply TakeS.next | apply TakeS.app)) ?_ | refine HSub.drop ?_ | refine HSub.dropS ?_ | exact HSub.nil _)) (by decide +kernel) rfl (by decide +kernel) ?_
        refine W_call (.cons rfl (.cons rfl .nil)) Try.call27 rfl (rnumber_L (n := ((encB s).length : Int)) (by unfold Wd; omega) 2 (by decide)) ?_
        rintro w2 H' ⟨HL2, hL2, rfl⟩
        obtain ⟨al2, cl2, rfl, _, _, hhl2⟩ := Holds.of_own (w0 := w0) (H := HL2 ++ []) hL2 (fun p hp => List.mem_append_left _ hp)
        refine W_nil ?_
        refine WC_goal ?_
        refine WC_one 8 (l' := #[true, true, true, true, true, true, true, true, true, false]) (by repeat (first | exact HSub.refl _ | refine HSub.cons (by repeat (first | exact Take.here _ | apply Take.next | apply Take.app)) ?_ | refine HSub.app (by repeat (first | exact TakeS.here _ | apply TakeS.next | apply TakeS.app)) ?_ | refine HSub.drop ?_ | refine HSub.dropS ?_ | exact HSub.nil _)) (by decide +kernel) rfl (by decide +kernel) ?_
        refine W_append (news := bytesV (lowL ((encB s).length : Nat) 2)) (m := 2) (HB := [(b57, .cells 5 1 [.int .u8 s.kind])]) (H0 := HB3 ++ ((b1, .cells 33 7 (stV s (.slice ad s.raw.length cap))) :: H)) rfl rfl ty22 ty5 rfl (by decide) (OwnS.own (n := 1) (cap := 1) rfl (Nat.le_refl _) (by simp only [maxLen]; omega)) (by rw [bytesV_len, lowL_len]) (hhl2.up (by repeat (first | exact HSub.refl _ | refine HSub.cons (by repeat (first | exact Take.here _ | apply Take.next | apply Take.app)) ?_ | refine HSub.app (by repeat (first | exact TakeS.here _ | apply TakeS.next | apply TakeS.app)) ?_ | refine HSub.drop ?_ | refine HSub.dropS ?_ | exact HSub.nil _))) (bytesV_one _) (by simp only [maxLen]; omega) (by omega) (by repeat (first | exact HSub.refl _ | refine HSub.cons (by repeat (first | exact Take.here _ | apply Take.next | apply Take.app)) ?_ | refine HSub.app (by repeat (first | exact TakeS.here _ | apply TakeS.next | apply TakeS.app)) ?_ | refine HSub.drop ?_ | refine HSub.dropS ?_ | exact HSub.nil _)) rfl (fun v7 HB7 hO7 => ?_)
        refine W_nil ?_
        refine WC_goal ?_
        refine WC_take 9 (l' := #[true, true, true, true, true, true, true, true, true, true]) rfl (by decide +kernel) (by decide +kernel) (by decide +kernel) rfl (by decide +kernel) (X_assign rfl) rfl ?_
        refine WC_done (by repeat (first | exact HSub.refl _ | refine HSub.cons (by repeat (first | exact Take.here _ | apply Take.next | apply Take.app)) ?_ | refine HSub.app (by repeat (first | exact TakeS.here _ | apply TakeS.next | apply TakeS.app)) ?_ | refine HSub.drop ?_ | refine HSub.dropS ?_ | exact HSub.nil _)) (by decide +kernel) ?_
        refine W_joinX (v7, HB7) hO7 (sub_cons rfl (sub_cons rfl (sub_nil _))) (by repeat (first | exact HSub.refl _ | refine HSub.cons (by repeat (first | exact Take.here _ | apply Take.next | apply Take.app)) ?_ | refine HSub.app (by repeat (first | exact TakeS.here _ | apply TakeS.next | apply TakeS.app)) ?_ | refine HSub.drop ?_ | refine HSub.dropS ?_ | exact HSub.nil _))
      · skip
        refine W_call (.cons rfl (.cons rfl .nil)) Try.call27 rfl (rnumber_L (n := ((encB s).length : Int)) (by unfold Wd; omega) 2 (by decide)) ?_
        rintro w2 H' ⟨HL2, hL2, rfl⟩
        obtain ⟨al2, cl2, rfl, _, _, hhl2⟩ := Holds.of_own (w0 := w0) (H := HL2 ++ []) hL2 (fun p hp => List.mem_append_left _ hp)
        refine W_nil ?_
        refine WC_goal ?_
        refine WC_one 3 (l' := #[true, true, true, true, true, true, true, true, false, false]) (by repeat (first | exact HSub.refl _ | refine HSub.cons (by repeat (first | exact Take.here _ | apply Take.next | apply Take.app)) ?_ | refine HSub.app (by repeat (first | exact TakeS.here _ | apply TakeS.next | apply TakeS.app)) ?_ | refine HSub.drop ?_ | refine HSub.dropS ?_ | exact HSub.nil _)) (by decide +kernel) rfl (by decide +kernel) ?_
        refine W_buildSlice (l := [.int .u8 s.kind]) ty22 ty5 (.cons rfl rfl rfl rfl rfl .nil) rfl rfl rfl rfl rfl rfl rfl (fun b57 => ?_)
        refine W_nil ?_
        refine WC_goal ?_
        refine WC_one 8 (l' := #[true, true, true, true, true, true, true, true, true, false]) (by repeat (first | exact HSub.refl _ | refine HSub.cons (by repeat (first | exact Take.here _ | apply Take.next | apply Take.app)) ?_ | refine HSub.app (by repeat (first | exact TakeS.here _ | apply TakeS.next | apply TakeS.app)) ?_ | refine HSub.drop ?_ | refine HSub.dropS ?_ | exact HSub.nil _)) (by decide +kernel) rfl (by decide +kernel) ?_
        refine W_append (news := bytesV (lowL ((encB s).length : Nat) 2)) (m := 2) (HB := [(b57, .cells 5 1 [.int .u8 s.kind])]) (H0 := HB3 ++ ((b1, .cells 33 7 (stV s (.slice ad s.raw.length cap))) :: H)) rfl rfl ty22 ty5 rfl (by decide) (OwnS.own (n := 1) (cap := 1) rfl (Nat.le_refl _) (by simp only [maxLen]; omega)) (by rw [bytesV_len, lowL_len]) (hhl2.up (by repeat (first | exact HSub.refl _ | refine HSub.cons (by repeat (first | exact Take.here _ | apply Take.next | apply Take.app)) ?_ | refine HSub.app (by repeat (first | exact TakeS.here _ | apply TakeS.next | apply TakeS.app)) ?_ | refine HSub.drop ?_ | refine HSub.dropS ?_ | exact HSub.nil _))) (bytesV_one _) (by simp only [maxLen]; omega) (by omega) (by repeat (first | exact HSub.refl _ | refine HSub.cons (by repeat (first | exact Take.here _ | apply Take.next | apply Take.app)) ?_ | refine HSub.app (by repeat (first | exact TakeS.here _ | apply TakeS.next | apply TakeS.app)) ?_ | refine HSub.drop ?_ | refine HSub.dropS ?_ | exact HSub.nil _)) rfl (fun v7 HB7 hO7 => ?_)
        refine W_nil ?_
        refine WC_goal ?_
        refine WC_take 9 (l' := #[true, true, true, true, true, true, true, true, true, true]) rfl (by decide +kernel) (by decide +kernel) (by decide +kernel) rfl (by decide +kernel) (X_assign rfl) rfl ?_
        refine WC_done (by repeat (first | exact HSub.refl _ | refine HSub.cons (by repeat (first | exact Take.here _ | apply Take.next | apply Take.app)) ?_ | refine HSub.app (by repeat (first | exact TakeS.here _ | apply TakeS.next | apply TakeS.app)) ?_ | refine HSub.drop ?_ | refine HSub.dropS ?_ | exact HSub.nil _)) (by decide +kernel) ?_
        refine W_joinX (v7, HB7) hO7 (sub_cons rfl (sub_cons rfl (sub_nil _))) (by repeat (first | exact HSub.refl _ | refine HSub.cons (by repeat (first | exact Take.here _ | apply Take.next | apply Take.app)) ?_ | refine HSub.app (by repeat (first | exact TakeS.here _ | apply TakeS.next | apply TakeS.app)) ?_ | refine HSub.drop ?_ | refine HSub.dropS ?_ | exact HSub.nil _))
    rintro ⟨v7, HB7⟩ hO7
    dsimp only at hO7 ⊢
    refine W_sr ?_
    refine W_move rfl rfl ?_
    refine W_move rfl rfl ?_
    obtain ⟨a7, c7, rfl, _, _⟩ := hO7.shape
    refine W_append (news := bytesV (encB s)) (m := (encB s).length) (HB := HB7) (H0 := H) rfl rfl ty22 ty5 rfl (by decide) hO7 (by rw [bytesV_len, Nat.mul_one]) (hh3.up (by repeat (first | exact HSub.refl _ | refine HSub.cons (by repeat (first | exact Take.here _ | apply Take.next | apply Take.app)) ?_ | refine HSub.app (by repeat (first | exact TakeS.here _ | apply TakeS.next | apply TakeS.app)) ?_ | refine HSub.drop ?_ | refine HSub.dropS ?_ | exact HSub.nil _))) (bytesV_one _) (by simp only [maxLen]; omega) (by omega) (by repeat (first | exact HSub.refl _ | refine HSub.cons (by repeat (first | exact Take.here _ | apply Take.next | apply Take.app)) ?_ | refine HSub.app (by repeat (first | exact TakeS.here _ | apply TakeS.next | apply TakeS.app)) ?_ | refine HSub.drop ?_ | refine HSub.dropS ?_ | exact HSub.nil _)) rfl (fun v8 HB8 hO8 => ?_)
    refine W_assign rfl rfl ?_
    refine W_nil ?_
    refine W_ret1m (H2 := HB8 ++ H) Try.results14 rfl (.nil _) (by repeat (first | exact HSub.refl _ | refine HSub.cons (by repeat (first | exact Take.here _ | apply Take.next | apply Take.app)) ?_ | refine HSub.app (by repeat (first | exact TakeS.here _ | apply TakeS.next | apply TakeS.app)) ?_ | refine HSub.drop ?_ | refine HSub.dropS ?_ | exact HSub.nil _)) ?_
    have e : enc s = (s.kind :: lowL ((encB s).length : Nat) 2) ++ encB s := by unfold enc; rw [hel]
    exact ⟨HB8, by rw [e, bytesV_append, List.length_append, List.length_cons, lowL_len]; exact hO8, rfl⟩
end Go.Proofs.Ytkhkagjbeilbgaa
