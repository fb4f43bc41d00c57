/-
  Own work: contracts of functions that the statement reaches, and plain facts on what they compute; each theorem says its conditions.
-/
import Derived.Test.YtkhkagjbeilbgaaS14
set_option linter.all false
set_option linter.unusedSimpArgs false
set_option linter.unusedVariables false
namespace Go.Proofs.Ytkhkagjbeilbgaa
open Go Go.Sl
attribute [local irreducible] W
open Go.Script

theorem getD_ge {w : List Nat} {l : List Int} {j : Nat} (h : w.getD j 0 = 0) : (takeN w l).getD j 0 = 0 := by
  by_cases hj : j < w.length
  · rw [takeN_get w l j hj, h]; rfl
  · rw [List.getD, List.getElem?_eq_none (by rw [takeN_len]; omega)]; rfl
/-- what stands in the step when the parts below 'm' have been read -/
def stAt (k : Int) (l : List Int) (m : Nat) : St := ofN k (nsAt (shW k) l m) []
theorem nsAt_skip {w : List Nat} {l : List Int} {a b : Nat} (hab : a ≤ b) (h : ∀ j, j < b → a ≤ j → w.getD j 0 = 0) : nsAt w l b = nsAt w l a := by
  have one : ∀ j, (if j < b then (takeN w l).getD j 0 else 0) = (if j < a then (takeN w l).getD j 0 else 0) := fun j => by
    by_cases h1 : j < a
    · rw [if_pos h1, if_pos (by omega)]
    · rw [if_neg h1]
      by_cases h2 : j < b
      · rw [if_pos h2, getD_ge (h j h2 (by omega))]
      · rw [if_neg h2]
  unfold nsAt
  rw [one 0, one 1, one 2, one 3, one 4]
theorem stAt_first {k : Int} (l : List Int) (hk : isK k = true) : stAt k l (Jn k 0) = ⟨k, 0, 0, 0, 0, 0, []⟩ := by
  unfold stAt
  rw [nsAt_skip (a := 0) (Nat.zero_le _) (fun j hj _ => (letF hk).first j hj)]
  rfl
theorem stAt_next {k : Int} (l : List Int) (hk : isK k = true) {i : Nat} (hi : i < (JL k).length) : stAt k l (Jn k (i + 1)) = stAt k l (Jn k i + 1) := by
  obtain ⟨_, h2, _, h4⟩ := (letF hk).at_ i hi
  unfold stAt
  rw [nsAt_skip (a := Jn k i + 1) (by omega) (fun j hj ha => h4 j hj (by omega))]
theorem stAt_last {k : Int} (l : List Int) (hk : isK k = true) : stAt k l (Jn k (JL k).length) = ofN k (takeN (shW k) l) [] := by
  rw [(letF hk).last]
  rfl
theorem sum_first {k : Int} (hk : isK k = true) : sumL ((shW k).take (Jn k 0)) = 0 := by
  rw [sum_skip (a := 0) (Nat.zero_le _) (fun j hj _ => (letF hk).first j hj)]; rfl
theorem sum_next {k : Int} (hk : isK k = true) {i : Nat} (hi : i < (JL k).length) : sumL ((shW k).take (Jn k (i + 1))) = sumL ((shW k).take (Jn k i)) + (shW k).getD (Jn k i) 0 := by
  obtain ⟨_, h2, h3, h4⟩ := (letF hk).at_ i hi
  rw [sum_skip (a := Jn k i + 1) (by omega) (fun j hj ha => h4 j hj (by omega)), sum_take (by rw [shW_len]; exact h3)]
theorem sum_last {k : Int} (hk : isK k = true) : sumL ((shW k).take (Jn k (JL k).length)) = sumL (shW k) := by
  rw [(letF hk).last, List.take_of_length_le (by rw [shW_len]; exact Nat.le_refl _)]
/-- the step with one more part -/
theorem stAt_set {k : Int} {l : List Int} {j : Nat} (hj : j ≤ 4) {u : Int} (hu : u = (takeN (shW k) l).getD j 0) (rv : Value) :
    (stV (stAt k l j) rv).set (1 + j) (if j < 3 then .int .i64 (i64 u) else .int .u64 u) = stV (stAt k l (j + 1)) rv := by
  subst hu
  match j, hj with
  | 0, _ => simp [stV, stAt, ofN, nsAt]
  | 1, _ => simp [stV, stAt, ofN, nsAt]
  | 2, _ => simp [stV, stAt, ofN, nsAt]
  | 3, _ => simp [stV, stAt, ofN, nsAt]
  | 4, _ => simp [stV, stAt, ofN, nsAt]
theorem ofN_in {k : Int} {l : List Int} (hk : isK k = true) (hb : Go.Script.Bytes l) (hl : sumL (shW k) ≤ l.length) (hr : rawOk k (l.length - sumL (shW k) : Nat) = true) :
    chk (ofN k (takeN (shW k) l) (l.drop (sumL (shW k)))) = if inB (ofN k (takeN (shW k) l) (l.drop (sumL (shW k)))) = false then 2 else 0 := by
  have hlen : (l.drop (sumL (shW k))).length = l.length - sumL (shW k) := List.length_drop
  rw [chk_rest (s := ofN k (takeN (shW k) l) (l.drop (sumL (shW k)))) hk ?_]
  · have hr' : rawOk (ofN k (takeN (shW k) l) (l.drop (sumL (shW k)))).kind ((ofN k (takeN (shW k) l) (l.drop (sumL (shW k)))).raw.length : Nat) = true := by
      show rawOk k ((l.drop (sumL (shW k))).length : Nat) = true
      rw [hlen]; exact hr
    rw [hr']; simp
  · intro hf
    rcases hf with hf | ⟨h1, h2, h3⟩
    · obtain ⟨i, hi, hbad⟩ := List.any_eq_true.1 hf
      unfold badForm at hbad
      rw [Bool.and_eq_true, decide_eq_true_eq, decide_eq_true_eq] at hbad
      obtain ⟨hw, hp⟩ := hbad
      have h0 : (takeN (shW k) l).getD i 0 = 0 := getD_ge (l := l) hw
      refine hp ?_
      have hi5 := List.mem_range.1 hi
      match i, hi5 with
      | 0, _ => show u64 (i64 ((takeN (shW k) l).getD 0 0)) = 0; rw [h0]; rfl
      | 1, _ => show u64 (i64 ((takeN (shW k) l).getD 1 0)) = 0; rw [h0]; rfl
      | 2, _ => show u64 (i64 ((takeN (shW k) l).getD 2 0)) = 0; rw [h0]; rfl
      | 3, _ => exact h0
      | 4, _ => exact h0
    · have h1' : 0 < (l.drop (sumL (shW k))).length := h1
      have h2' : k ≠ 5 := h2
      have h3' : k ≠ 6 := h3
      rw [hlen] at h1'
      unfold rawOk at hr
      rw [if_neg h2', if_neg h3'] at hr
      simp at hr; omega

/-- x[k:] of a slice that may be nil -/
def sliceN (ad : Option Addr) (k cap : Nat) : Option Addr := if cap = k then ad else ad.map (·.add k)
theorem sliceN_holds {w0 : World} {H : Heap} {ad : Option Addr} {k cap : Nat} {xs : List Value} (hl : xs.length ≤ cap) (h : Holds w0 H ad xs) : Holds w0 H (sliceN ad k cap) (xs.drop k) := fun j x hx => by
  rw [List.getElem?_drop] at hx
  have hj := (List.getElem?_eq_some_iff.1 hx).1
  obtain ⟨b, o, e, hc⟩ := h _ _ hx
  subst e
  refine ⟨b, o + k, ?_, by rw [Nat.add_assoc]; exact hc⟩
  unfold sliceN
  rw [if_neg (by omega)]
  simp [addr_add]
theorem X_sliceN {P : Program} {n : Nat} {env : Env} {ad : Option Addr} {len cap k hh s by_ eb : Nat} {x : Operand} {t ty : TypeId} {lo hi : Option Operand} {e : TypeId} {z ez : Value} {ed : TypeDesc} {C : World → Prop} (hx : opv env x = some (.slice ad len cap)) (ht : Ty P t (.slice e) s z by_) (he : Ty P e ed 1 ez eb)
    (hlo : optIdx env 0 lo k) (hhi : optIdx env len hi hh) (h1 : k ≤ hh) (h2 : hh ≤ cap) : Ex P n env C (.slice t x lo hi none) ty (.slice (sliceN ad k cap) (hh - k) (cap - k)) := fun a w d pos aft g ha _ => by
  have := run_slice_slice (P := P) (w := w) (ad := ad) ha ht he hlo hhi h1 h2
  rw [Nat.mul_one] at this
  simp [execOp, ha.opv hx, this, Result.andThen, sliceN]
theorem take_q' {w0 : World} {H : Heap} {l : List Int} {ad : Option Addr} {cap k m : Nat} (hm : l.length = m) (hk : k ≤ 8) (hkl : k ≤ l.length) (hb : Go.Script.Bytes l) (hrow : Holds w0 H ad (bytesV l)) : PureAt Try.prog w0 H 39 [.slice ad m cap, .int .i64 (k : Int)] (.int .u64 (numL (l.take k))) := by
  subst hm; exact take_q hk hkl hb hrow
set_option maxHeartbeats 4000000 in
theorem rone_L {w0 : World} {H : Heap} {k : Int} {l : List Int} {ad : Option Addr} {cap : Nat} (hk64 : I64 k) (hl : l.length ≤ 100000) (hlc : l.length ≤ cap) (hb : Go.Script.Bytes l) (hrow : Holds w0 H ad (bytesV l))  : LCalls Try.prog w0 21 #[.int .i64 k, .slice ad l.length cap] (H) (fun v H' => ∃ HB r, r.st = (one k l).1 ∧ SrOk w0 HB r ∧ v = .tuple #[.agg r.cells.toArray, .int .i64 (one k l).2] ∧ H' = HB ++ H) := by
  refine L_enter (l := [.int .i64 k, .slice ad l.length cap]) Try.func21 rfl Try.ntmps21 rfl rfl ?_
  refine W_sr ?_
  refine W_alloc ty33 rfl rfl (fun b4 => ?_)
  refine W_assign rfl rfl ?_
  refine W_nil ?_
  refine W_seq ?_
  refine W_sr ?_
  refine W_move rfl rfl ?_
  refine W_callp (.cons rfl .nil) Try.call22 rfl (T := fun _ => True) trivial (refWord_pure _) ?_
  refine W_seq_s rfl rfl rfl ?_
  rw [word_empty]
  refine W_nil ?_
  refine W_condS rfl (fun c0 => ?_) (fun c0 => ?_)
  · simp only [cond_true, cond_false, Bool.and_eq_true, Bool.or_eq_true, Bool.and_eq_false_iff, Bool.or_eq_false_iff, decide_eq_true_eq, decide_eq_false_iff_not, Bool.not_eq_true', Bool.not_eq_false', ne_eq, Decidable.not_not] at c0
    refine W_sr ?_
    refine W_build (l := stV zeroS (.slice none 0 0)) ty33 pl33 .nil rfl rfl rfl ?_
    refine W_storeA rfl rfl ty33 rfl rfl (by repeat (first | exact List.mem_cons_self | apply List.mem_cons_of_mem | apply List.mem_append_right)) (Nat.le_of_ble_eq_true rfl) (by simp only [fillL, spliceL, Value.cells, List.take_zero, List.take_succ_cons, List.take_nil, List.drop_zero, List.drop_succ_cons, List.drop_nil, List.nil_append, List.cons_append, List.append_nil, List.length_cons, List.length_nil, Nat.zero_add, Nat.reduceAdd, List.toList_toArray]; rfl) (by repeat (first | exact Upd.head _ | apply Upd.tail | apply Upd.app)) ?_
    refine W_assign rfl rfl ?_
    refine W_nil ?_
    refine W_ret2G (H2 := H) Try.results21 (.nil _) (.own rfl ty33 rfl (by repeat (first | exact List.mem_cons_self | apply List.mem_cons_of_mem | apply List.mem_append_right)) rfl) (.tmp rfl) (by repeat (first | exact HSub.refl _ | refine HSub.cons (by repeat (first | exact Take.here _ | apply Take.next | apply Take.app)) ?_ | refine HSub.app (by repeat (first | exact TakeS.here _ | apply TakeS.next | apply TakeS.app)) ?_ | refine HSub.drop ?_ | refine HSub.dropS ?_ | exact HSub.nil _)) ?_
    have e : one k l = (zeroS, 11) := by unfold one; rw [if_pos (by simpa using c0)]
    exact ⟨[], ⟨zeroS, none, 0⟩, by rw [e], ⟨zero_ok, Holds.nil⟩, by rw [e]; rfl, rfl⟩
  · simp only [cond_true, cond_false, Bool.and_eq_true, Bool.or_eq_true, Bool.and_eq_false_iff, Bool.or_eq_false_iff, decide_eq_true_eq, decide_eq_false_iff_not, Bool.not_eq_true', Bool.not_eq_false', ne_eq, Decidable.not_not] at c0
    refine W_skip ?_
    refine W_sr ?_
    refine W_move rfl rfl ?_
    have hk : isK k = true := by simpa using c0
    refine W_callp (.cons rfl .nil) Try.call23 rfl (T := fun _ => True) trivial (refUses_pure _ hk) ?_
    refine W_assign rfl rfl ?_
    refine W_nil ?_
    refine W_sr ?_
    refine W_assign rfl rfl ?_
    refine W_nil ?_
    refine W_seq ?_
    refine W_sr ?_
    refine W_assign rfl rfl ?_
    refine W_nil ?_
    refine W_block ?_
    have hk : isK k = true := by simpa using c0
    have hsz := (letF hk).size
    refine W_loopC (X := Nat) [(0, _), (1, _), (4, _), (6, _)] (fun (i : Nat) => [(7, .int .i64 ((sumL ((shW k).take (Jn k i)) : Nat) : Int)), (8, .int .i64 (i : Int))]) (fun _ => _) (fun (i : Nat) => (b4, .cells 33 7 (stV zeroS (.slice none 0 0))) :: H) (fun (i : Nat) => i ≤ (JL k).length) (fun (i : Nat) => (JL k).length - i) 0 (Nat.zero_le _) (sub_cons rfl (sub_cons rfl (sub_cons rfl (sub_cons rfl (sub_nil _))))) (sub_cons (by rw [sum_first hk]; rfl) (sub_cons rfl (sub_nil _))) rfl (by repeat (first | exact HSub.refl _ | refine HSub.cons (by repeat (first | exact Take.here _ | apply Take.next | apply Take.app)) ?_ | refine HSub.app (by repeat (first | exact TakeS.here _ | apply TakeS.next | apply TakeS.app)) ?_ | refine HSub.drop ?_ | refine HSub.dropS ?_ | exact HSub.nil _)) ?_
    intro i hi
    have hJle := (letF hk).le
    have hs20 := shW_20 hk
    have hsi := sum_le (shW k) (Jn k i)
    simp only [List.cons_append, List.nil_append]
    refine W_seq ?_
    refine W_sr ?_
    refine W_move rfl rfl ?_
    refine W_move rfl rfl ?_
    refine W_lens rfl ty9 rfl rfl ?_
    refine W_bin rfl rfl b_lss rfl ?_
    refine W_nil ?_
    refine W_condPS (p := i < (JL k).length) rfl (by simp; omega) (fun c1 => ?_) (fun c1 => ?_)
    · skip
      refine W_skip ?_
      refine W_seq ?_
      refine W_block ?_
      refine W_region ?_
      obtain ⟨hlet, hjl, hj5, _⟩ := (letF hk).at_ i (by omega)
      obtain ⟨r, hr⟩ : ∃ r, (usesB k)[i]? = some r := ⟨_, getElem?_pos (usesB k) i (by rw [(letF hk).size]; omega)⟩
      rw [letter_eq hr] at hlet
      have hw8 := let_w hlet
      have hsn := sum_next hk (i := i) (by omega)
      have hsi1 := sum_le (shW k) (Jn k (i + 1))
      refine W_move rfl rfl ?_
      refine W_move rfl rfl ?_
      refine W_move rfl rfl ?_
      refine W_indexS (j := i) rfl rfl ty9 rfl hr rfl rfl ?_
      refine W_callp (.cons rfl .nil) Try.call28 rfl (T := fun _ => True) trivial (size_pure _) ?_
      rw [size_let hlet]
      refine W_bin rfl rfl (b_add (m := ((sumL ((shW k).take (Jn k (i + 1))) : Nat) : Int)) ((i64w (by omega)).trans (by omega))) rfl ?_
      refine W_assign rfl rfl ?_
      refine W_nil ?_
      refine W_blk ?_
      refine W_region ?_
      refine W_move rfl rfl ?_
      refine W_bin rfl rfl (b_add (m := ((i + 1 : Nat) : Int)) ((i64w (by omega)).trans (by omega))) rfl ?_
      refine W_assign rfl rfl ?_
      refine W_nil ?_
      refine W_again (i + 1) (by omega) (by omega) (sub_cons rfl (sub_cons rfl (sub_cons rfl (sub_cons rfl (sub_cons rfl (sub_cons rfl (sub_nil _))))))) rfl (by repeat (first | exact HSub.refl _ | refine HSub.cons (by repeat (first | exact Take.here _ | apply Take.next | apply Take.app)) ?_ | refine HSub.app (by repeat (first | exact TakeS.here _ | apply TakeS.next | apply TakeS.app)) ?_ | refine HSub.drop ?_ | refine HSub.dropS ?_ | exact HSub.nil _))
    · skip
      refine W_exit rfl ?_
      refine W_seq ?_
      refine W_sr ?_
      refine W_move rfl rfl ?_
      refine W_len rfl ty22 rfl rfl ?_
      obtain rfl : i = (JL k).length := by omega
      rw [sum_last hk]
      refine W_move rfl rfl ?_
      refine W_bin rfl rfl b_lss rfl ?_
      refine W_move rfl rfl ?_
      apply W_or
      iterate 4 exact rfl
      case h1 =>
        intro hg4
        have hg4 := of_decide_eq_false hg4
        refine W_gyes rfl rfl ?_
        refine W_move rfl rfl ?_
        refine W_gyes rfl rfl ?_
        refine W_move rfl rfl ?_
        refine W_gyes rfl rfl ?_
        refine W_len rfl ty22 rfl rfl ?_
        refine W_gyes rfl rfl ?_
        refine W_move rfl rfl ?_
        refine W_gyes rfl rfl ?_
        refine W_bin rfl rfl (b_sub (m := ((l.length - sumL (shW k) : Nat) : Int)) ((i64w (by omega)).trans (by omega))) rfl ?_
        refine W_gyes rfl rfl ?_
        refine W_callp (.cons rfl (.cons rfl .nil)) Try.call26 rfl (T := fun _ => True) trivial (long_pure _ _ (by omega)) ?_
        refine W_gyes rfl rfl ?_
        refine W_not rfl rfl ?_
        exact W_met rfl (by repeat (first | exact .refl | refine .cons rfl ?_))
      refine W_nil ?_
      refine W_condPS (p := l.length < sumL (shW k) ∨ rawOk k (l.length - sumL (shW k) : Nat) = false) rfl (by simp) (fun c2 => ?_) (fun c2 => ?_)
      · skip
        refine W_sr ?_
        refine W_build (l := stV zeroS (.slice none 0 0)) ty33 pl33 .nil rfl rfl rfl ?_
        refine W_storeA rfl rfl ty33 rfl rfl (by repeat (first | exact List.mem_cons_self | apply List.mem_cons_of_mem | apply List.mem_append_right)) (Nat.le_of_ble_eq_true rfl) (by simp only [fillL, spliceL, Value.cells, List.take_zero, List.take_succ_cons, List.take_nil, List.drop_zero, List.drop_succ_cons, List.drop_nil, List.nil_append, List.cons_append, List.append_nil, List.length_cons, List.length_nil, Nat.zero_add, Nat.reduceAdd, List.toList_toArray]; rfl) (by repeat (first | exact Upd.head _ | apply Upd.tail | apply Upd.app)) ?_
        refine W_assign rfl rfl ?_
        refine W_nil ?_
        refine W_ret2G (H2 := H) Try.results21 (.nil _) (.own rfl ty33 rfl (by repeat (first | exact List.mem_cons_self | apply List.mem_cons_of_mem | apply List.mem_append_right)) rfl) (.tmp rfl) (by repeat (first | exact HSub.refl _ | refine HSub.cons (by repeat (first | exact Take.here _ | apply Take.next | apply Take.app)) ?_ | refine HSub.app (by repeat (first | exact TakeS.here _ | apply TakeS.next | apply TakeS.app)) ?_ | refine HSub.drop ?_ | refine HSub.dropS ?_ | exact HSub.nil _)) ?_
        have e : one k l = (zeroS, 9) := by unfold one; rw [if_neg (by simp [hk]), if_pos c2]
        exact ⟨[], ⟨zeroS, none, 0⟩, by rw [e], ⟨zero_ok, Holds.nil⟩, by rw [e]; rfl, rfl⟩
      · skip
        refine W_skip ?_
        refine W_sr ?_
        refine W_move rfl rfl ?_
        refine W_build (l := stV ⟨k, 0, 0, 0, 0, 0, []⟩ (.slice none 0 0)) ty33 pl33 (.cons rfl rfl rfl rfl rfl .nil) rfl rfl rfl ?_
        refine W_alloc ty33 rfl rfl (fun b9 => ?_)
        refine W_storeA rfl rfl ty33 rfl rfl (by repeat (first | exact List.mem_cons_self | apply List.mem_cons_of_mem | apply List.mem_append_right)) (Nat.le_of_ble_eq_true rfl) (by simp only [fillL, spliceL, Value.cells, List.take_zero, List.take_succ_cons, List.take_nil, List.drop_zero, List.drop_succ_cons, List.drop_nil, List.nil_append, List.cons_append, List.append_nil, List.length_cons, List.length_nil, Nat.zero_add, Nat.reduceAdd, List.toList_toArray]; rfl) (by repeat (first | exact Upd.head _ | apply Upd.tail | apply Upd.app)) ?_
        refine W_nil ?_
        refine W_sr ?_
        refine W_assign rfl rfl ?_
        refine W_nil ?_
        refine W_seq ?_
        refine W_sr ?_
        refine W_assign rfl rfl ?_
        refine W_nil ?_
        refine W_block ?_
        have hs20 := shW_20 hk
        have hlen : sumL (shW k) ≤ l.length := by omega
        have hraw : rawOk k (l.length - sumL (shW k) : Nat) = true := by rw [← Bool.not_eq_false]; exact fun hh => c2 (.inr hh)
        have hraw6 := rawOk_600 hraw
        refine W_loopC (X := Nat) [(0, _), (1, _), (4, _), (6, _), (9, _)] (fun (i : Nat) => [(10, .int .i64 ((sumL ((shW k).take (Jn k i)) : Nat) : Int)), (11, .int .i64 (i : Int))]) (fun _ => _) (fun (i : Nat) => (b9, .cells 33 7 (stV (stAt k l (Jn k i)) (.slice none 0 0))) :: (b4, .cells 33 7 (stV zeroS (.slice none 0 0))) :: H) (fun (i : Nat) => i ≤ (JL k).length) (fun (i : Nat) => (JL k).length - i) 0 (Nat.zero_le _) (sub_cons rfl (sub_cons rfl (sub_cons rfl (sub_cons rfl (sub_cons rfl (sub_nil _)))))) (sub_cons (by rw [sum_first hk]; rfl) (sub_cons rfl (sub_nil _))) rfl (by rw [stAt_first l hk]; exact .refl _) ?_
        intro i hi
        have hsi := sum_le (shW k) (Jn k i)
        simp only [List.cons_append, List.nil_append]
        refine W_seq ?_
        refine W_sr ?_
        refine W_move rfl rfl ?_
        refine W_move rfl rfl ?_
        refine W_lens rfl ty9 rfl rfl ?_
        refine W_bin rfl rfl b_lss rfl ?_
        refine W_nil ?_
        refine W_condPS (p := i < (JL k).length) rfl (by simp; omega) (fun c3 => ?_) (fun c3 => ?_)
        · skip
          refine W_skip ?_
          refine W_seq ?_
          refine W_block ?_
          refine W_quietsr (by kernel_rfl) (by decide +kernel) ?_
          refine WQ_x (X_move rfl) rfl ?_
          refine WQ_x (X_move rfl) rfl ?_
          obtain ⟨hlet, hjl, hj5, _⟩ := (letF hk).at_ i (by omega)
          obtain ⟨r, hr⟩ : ∃ r, (usesB k)[i]? = some r := ⟨_, getElem?_pos (usesB k) i (by rw [(letF hk).size]; omega)⟩
          rw [letter_eq hr] at hlet
          have hw8 := let_w hlet
          have hsn := sum_next hk (i := i) (by omega)
          have hsi1 := sum_le (shW k) (Jn k (i + 1))
          refine WQ_x (X_sliceN (k := sumL ((shW k).take (Jn k i))) rfl ty22 ty5 ⟨_, rfl⟩ rfl (by omega) hlc) rfl ?_
          refine WQ_x (X_move rfl) rfl ?_
          refine WQ_x (X_move rfl) rfl ?_
          refine WQ_x (X_indexS (j := i) rfl rfl ty9 rfl hr rfl) rfl ?_
          refine WQ_callp (.cons rfl .nil) Try.call28 rfl (T := fun _ => True) trivial (size_pure _) ?_
          rw [size_let hlet]
          refine WQ_callq (.cons rfl (.cons rfl .nil)) Try.call39 rfl (take_q' (l := l.drop (sumL ((shW k).take (Jn k i)))) (by rw [List.length_drop]) hw8.1 (by rw [List.length_drop]; omega) (hb.drop _) (by rw [bytesV_drop]; exact (sliceN_holds (by rw [bytesV_len]; omega) hrow).up (by repeat (first | exact HSub.refl _ | refine HSub.cons (by repeat (first | exact Take.here _ | apply Take.next | apply Take.app)) ?_ | refine HSub.app (by repeat (first | exact TakeS.here _ | apply TakeS.next | apply TakeS.app)) ?_ | refine HSub.drop ?_ | refine HSub.dropS ?_ | exact HSub.nil _)))) ?_
          have hun := takeN_get (shW k) l (Jn k i) (by rw [shW_len]; omega)
          rw [← hun]
          obtain ⟨u, hun⟩ : ∃ u, u = (takeN (shW k) l).getD (Jn k i) 0 := ⟨_, rfl⟩
          rw [← hun]
          refine WQ_x (X_assign rfl) rfl ?_
          refine WQ_nil ?_
          refine W_sr ?_
          refine W_move rfl rfl ?_
          refine W_move rfl rfl ?_
          refine W_move rfl rfl ?_
          refine W_indexS (j := i) rfl rfl ty9 rfl hr rfl rfl ?_
          refine W_callp (.cons rfl .nil) Try.call28 rfl (T := fun _ => True) trivial (size_pure _) ?_
          rw [size_let hlet]
          refine W_bin rfl rfl (b_add (m := ((sumL ((shW k).take (Jn k (i + 1))) : Nat) : Int)) ((i64w (by omega)).trans (by omega))) rfl ?_
          refine W_assign rfl rfl ?_
          refine W_nil ?_
          refine W_sr ?_
          refine W_move rfl rfl ?_
          refine W_move rfl rfl ?_
          refine W_indexS (j := i) rfl rfl ty9 rfl hr rfl rfl ?_
          refine W_nil ?_
          refine W_block ?_
          refine W_sr ?_
          refine W_bin rfl rfl b_eql rfl ?_
          refine W_assign rfl rfl ?_
          refine W_nil ?_
          refine W_condJ (p := (r.toNat : Int) = 97) [(0, .int .i64 k), (1, .slice ad l.length cap), (4, .pointer (some ⟨b4, 0, none⟩)), (6, .string (usesB k)), (9, .pointer (some ⟨b9, 0, none⟩)), (10, .int .i64 ((sumL ((shW k).take (Jn k (i + 1))) : Nat) : Int)), (11, .int .i64 (i : Int))] ((b9, .cells 33 7 (stV (stAt k l (Jn k i + 1)) (.slice none 0 0))) :: (b4, .cells 33 7 (stV zeroS (.slice none 0 0))) :: H) rfl (by simp) (fun c4 => ?_) (fun c4 => ?_) ?_
          · skip
            refine W_region ?_
            refine W_move rfl rfl ?_
            refine W_conv rfl ty27 ty3 i64_conv rfl ?_
            refine W_fieldAddr rfl fld33_1 (by decide) rfl ?_
            refine W_store rfl rfl ty3 rfl rfl (by repeat (first | exact List.mem_cons_self | apply List.mem_cons_of_mem | apply List.mem_append_right)) rfl rfl (by repeat (first | exact Upd.head _ | apply Upd.tail | apply Upd.app)) ?_
            refine W_nil ?_
            refine W_joined (sub_cons rfl (sub_cons rfl (sub_cons rfl (sub_cons rfl (sub_cons rfl (sub_cons rfl (sub_cons rfl (sub_nil _)))))))) (by rcases hlet with ⟨h1, h2, h3⟩ | ⟨h1, h2, h3⟩ | ⟨h1, h2, h3⟩ | ⟨h1, h2, h3⟩ | ⟨h1, h2, h3⟩ | ⟨h1, h2, h3⟩ <;> first | (exfalso; omega) | (have hset := stAt_set (k := k) (l := l) hw8.2 hun (.slice none 0 0); rw [h2] at hset ⊢; rw [← hset]; exact .refl _))
          · skip
            refine W_sr ?_
            refine W_bin rfl rfl b_eql rfl ?_
            refine W_assign rfl rfl ?_
            refine W_nil ?_
            refine W_condS rfl (fun c5 => ?_) (fun c5 => ?_)
            · simp only [cond_true, cond_false, Bool.and_eq_true, Bool.or_eq_true, Bool.and_eq_false_iff, Bool.or_eq_false_iff, decide_eq_true_eq, decide_eq_false_iff_not, Bool.not_eq_true', Bool.not_eq_false', ne_eq, Decidable.not_not] at c5
              refine W_region ?_
              refine W_move rfl rfl ?_
              refine W_conv rfl ty27 ty3 i64_conv rfl ?_
              refine W_fieldAddr rfl fld33_2 (by decide) rfl ?_
              refine W_store rfl rfl ty3 rfl rfl (by repeat (first | exact List.mem_cons_self | apply List.mem_cons_of_mem | apply List.mem_append_right)) rfl rfl (by repeat (first | exact Upd.head _ | apply Upd.tail | apply Upd.app)) ?_
              refine W_nil ?_
              refine W_joined (sub_cons rfl (sub_cons rfl (sub_cons rfl (sub_cons rfl (sub_cons rfl (sub_cons rfl (sub_cons rfl (sub_nil _)))))))) (by rcases hlet with ⟨h1, h2, h3⟩ | ⟨h1, h2, h3⟩ | ⟨h1, h2, h3⟩ | ⟨h1, h2, h3⟩ | ⟨h1, h2, h3⟩ | ⟨h1, h2, h3⟩ <;> first | (exfalso; omega) | (have hset := stAt_set (k := k) (l := l) hw8.2 hun (.slice none 0 0); rw [h2] at hset ⊢; rw [← hset]; exact .refl _))
            · simp only [cond_true, cond_false, Bool.and_eq_true, Bool.or_eq_true, Bool.and_eq_false_iff, Bool.or_eq_false_iff, decide_eq_true_eq, decide_eq_false_iff_not, Bool.not_eq_true', Bool.not_eq_false', ne_eq, Decidable.not_not] at c5
              refine W_seq ?_
              refine W_sr ?_
              refine W_bin rfl rfl b_eql rfl ?_
              refine W_assign rfl rfl ?_
              refine W_nil ?_
              refine W_condS rfl (fun c6 => ?_) (fun c6 => ?_)
              · simp only [cond_true, cond_false, Bool.and_eq_true, Bool.or_eq_true, Bool.and_eq_false_iff, Bool.or_eq_false_iff, decide_eq_true_eq, decide_eq_false_iff_not, Bool.not_eq_true', Bool.not_eq_false', ne_eq, Decidable.not_not] at c6
                refine W_skip ?_
                refine W_condT rfl rfl ?_
                refine W_region ?_
                refine W_move rfl rfl ?_
                refine W_conv rfl ty27 ty3 i64_conv rfl ?_
                refine W_fieldAddr rfl fld33_3 (by decide) rfl ?_
                refine W_store rfl rfl ty3 rfl rfl (by repeat (first | exact List.mem_cons_self | apply List.mem_cons_of_mem | apply List.mem_append_right)) rfl rfl (by repeat (first | exact Upd.head _ | apply Upd.tail | apply Upd.app)) ?_
                refine W_nil ?_
                refine W_joined (sub_cons rfl (sub_cons rfl (sub_cons rfl (sub_cons rfl (sub_cons rfl (sub_cons rfl (sub_cons rfl (sub_nil _)))))))) (by rcases hlet with ⟨h1, h2, h3⟩ | ⟨h1, h2, h3⟩ | ⟨h1, h2, h3⟩ | ⟨h1, h2, h3⟩ | ⟨h1, h2, h3⟩ | ⟨h1, h2, h3⟩ <;> first | (exfalso; omega) | (have hset := stAt_set (k := k) (l := l) hw8.2 hun (.slice none 0 0); rw [h2] at hset ⊢; rw [← hset]; exact .refl _))
              · simp only [cond_true, cond_false, Bool.and_eq_true, Bool.or_eq_true, Bool.and_eq_false_iff, Bool.or_eq_false_iff, decide_eq_true_eq, decide_eq_false_iff_not, Bool.not_eq_true', Bool.not_eq_false', ne_eq, Decidable.not_not] at c6
                refine W_region ?_
                refine W_bin rfl rfl b_eql rfl ?_
                refine W_assign rfl rfl ?_
                refine W_nil ?_
                refine W_condS rfl (fun c7 => ?_) (fun c7 => ?_)
                · simp only [cond_true, cond_false, Bool.and_eq_true, Bool.or_eq_true, Bool.and_eq_false_iff, Bool.or_eq_false_iff, decide_eq_true_eq, decide_eq_false_iff_not, Bool.not_eq_true', Bool.not_eq_false', ne_eq, Decidable.not_not] at c7
                  refine W_region ?_
                  refine W_move rfl rfl ?_
                  refine W_conv rfl ty27 ty3 i64_conv rfl ?_
                  refine W_fieldAddr rfl fld33_3 (by decide) rfl ?_
                  refine W_store rfl rfl ty3 rfl rfl (by repeat (first | exact List.mem_cons_self | apply List.mem_cons_of_mem | apply List.mem_append_right)) rfl rfl (by repeat (first | exact Upd.head _ | apply Upd.tail | apply Upd.app)) ?_
                  refine W_nil ?_
                  refine W_joined (sub_cons rfl (sub_cons rfl (sub_cons rfl (sub_cons rfl (sub_cons rfl (sub_cons rfl (sub_cons rfl (sub_nil _)))))))) (by rcases hlet with ⟨h1, h2, h3⟩ | ⟨h1, h2, h3⟩ | ⟨h1, h2, h3⟩ | ⟨h1, h2, h3⟩ | ⟨h1, h2, h3⟩ | ⟨h1, h2, h3⟩ <;> first | (exfalso; omega) | (have hset := stAt_set (k := k) (l := l) hw8.2 hun (.slice none 0 0); rw [h2] at hset ⊢; rw [← hset]; exact .refl _))
                · simp only [cond_true, cond_false, Bool.and_eq_true, Bool.or_eq_true, Bool.and_eq_false_iff, Bool.or_eq_false_iff, decide_eq_true_eq, decide_eq_false_iff_not, Bool.not_eq_true', Bool.not_eq_false', ne_eq, Decidable.not_not] at c7
                  refine W_sr ?_
                  refine W_bin rfl rfl b_eql rfl ?_
                  refine W_assign rfl rfl ?_
                  refine W_nil ?_
                  refine W_condS rfl (fun c8 => ?_) (fun c8 => ?_)
                  · simp only [cond_true, cond_false, Bool.and_eq_true, Bool.or_eq_true, Bool.and_eq_false_iff, Bool.or_eq_false_iff, decide_eq_true_eq, decide_eq_false_iff_not, Bool.not_eq_true', Bool.not_eq_false', ne_eq, Decidable.not_not] at c8
                    refine W_region ?_
                    refine W_move rfl rfl ?_
                    refine W_fieldAddr rfl fld33_4 (by decide) rfl ?_
                    refine W_store rfl rfl ty27 rfl rfl (by repeat (first | exact List.mem_cons_self | apply List.mem_cons_of_mem | apply List.mem_append_right)) rfl rfl (by repeat (first | exact Upd.head _ | apply Upd.tail | apply Upd.app)) ?_
                    refine W_nil ?_
                    refine W_joined (sub_cons rfl (sub_cons rfl (sub_cons rfl (sub_cons rfl (sub_cons rfl (sub_cons rfl (sub_cons rfl (sub_nil _)))))))) (by rcases hlet with ⟨h1, h2, h3⟩ | ⟨h1, h2, h3⟩ | ⟨h1, h2, h3⟩ | ⟨h1, h2, h3⟩ | ⟨h1, h2, h3⟩ | ⟨h1, h2, h3⟩ <;> first | (exfalso; omega) | (have hset := stAt_set (k := k) (l := l) hw8.2 hun (.slice none 0 0); rw [h2] at hset ⊢; rw [← hset]; exact .refl _))
                  · simp only [cond_true, cond_false, Bool.and_eq_true, Bool.or_eq_true, Bool.and_eq_false_iff, Bool.or_eq_false_iff, decide_eq_true_eq, decide_eq_false_iff_not, Bool.not_eq_true', Bool.not_eq_false', ne_eq, Decidable.not_not] at c8
                    refine W_region ?_
                    refine W_move rfl rfl ?_
                    refine W_fieldAddr rfl fld33_5 (by decide) rfl ?_
                    refine W_store rfl rfl ty27 rfl rfl (by repeat (first | exact List.mem_cons_self | apply List.mem_cons_of_mem | apply List.mem_append_right)) rfl rfl (by repeat (first | exact Upd.head _ | apply Upd.tail | apply Upd.app)) ?_
                    refine W_nil ?_
                    refine W_joined (sub_cons rfl (sub_cons rfl (sub_cons rfl (sub_cons rfl (sub_cons rfl (sub_cons rfl (sub_cons rfl (sub_nil _)))))))) (by rcases hlet with ⟨h1, h2, h3⟩ | ⟨h1, h2, h3⟩ | ⟨h1, h2, h3⟩ | ⟨h1, h2, h3⟩ | ⟨h1, h2, h3⟩ | ⟨h1, h2, h3⟩ <;> first | (exfalso; omega) | (have hset := stAt_set (k := k) (l := l) hw8.2 hun (.slice none 0 0); rw [h2] at hset ⊢; rw [← hset]; exact .refl _))
          skip
          refine W_blk ?_
          refine W_blk ?_
          refine W_region ?_
          refine W_move rfl rfl ?_
          refine W_bin rfl rfl (b_add (m := ((i + 1 : Nat) : Int)) ((i64w (by omega)).trans (by omega))) rfl ?_
          refine W_assign rfl rfl ?_
          refine W_nil ?_
          refine W_again (i + 1) (by omega) (by omega) (sub_cons rfl (sub_cons rfl (sub_cons rfl (sub_cons rfl (sub_cons rfl (sub_cons rfl (sub_cons rfl (sub_nil _)))))))) rfl (by rw [stAt_next l hk (by omega)]; exact .refl _)
        · skip
          refine W_exit rfl ?_
          refine W_sr ?_
          obtain rfl : i = (JL k).length := by omega
          rw [sum_last hk, stAt_last l hk]
          refine W_buildSlice (l := []) ty22 ty5 .nil rfl rfl rfl rfl rfl rfl rfl (fun b92 => ?_)
          refine W_move rfl rfl ?_
          refine W_move rfl rfl ?_
          refine W_x (X_sliceN (k := sumL (shW k)) rfl ty22 ty5 ⟨_, rfl⟩ rfl (by omega) hlc) (fun _ h => by cases h) rfl ?_
          refine W_append (news := bytesV (l.drop (sumL (shW k)))) (m := (l.length - sumL (shW k))) (HB := [(b92, .cells 5 0 [])]) (H0 := (b9, .cells 33 7 (stV (ofN k (takeN (shW k) l) []) (.slice none 0 0))) :: (b4, .cells 33 7 (stV zeroS (.slice none 0 0))) :: H) rfl rfl ty22 ty5 rfl (by decide) (OwnS.own (n := 0) (cap := 0) rfl (Nat.le_refl _) (Nat.zero_le _)) (by rw [bytesV_len, List.length_drop, Nat.mul_one]) (by rw [bytesV_drop]; exact (sliceN_holds (k := sumL (shW k)) (by rw [bytesV_len]; omega) hrow).up (by repeat (first | exact HSub.refl _ | refine HSub.cons (by repeat (first | exact Take.here _ | apply Take.next | apply Take.app)) ?_ | refine HSub.app (by repeat (first | exact TakeS.here _ | apply TakeS.next | apply TakeS.app)) ?_ | refine HSub.drop ?_ | refine HSub.dropS ?_ | exact HSub.nil _))) (bytesV_one _) (by simp only [maxLen]; omega) (by omega) (by repeat (first | exact HSub.refl _ | refine HSub.cons (by repeat (first | exact Take.here _ | apply Take.next | apply Take.app)) ?_ | refine HSub.app (by repeat (first | exact TakeS.here _ | apply TakeS.next | apply TakeS.app)) ?_ | refine HSub.drop ?_ | refine HSub.dropS ?_ | exact HSub.nil _)) rfl (fun v' HB' hO' => ?_)
          obtain ⟨a9, c9, rfl, _, _⟩ := hO'.shape
          refine W_fieldAddr rfl fld33_6 (by decide) rfl ?_
          refine W_store rfl rfl ty22 rfl rfl (by repeat (first | exact List.mem_cons_self | apply List.mem_cons_of_mem | apply List.mem_append_right)) rfl rfl (by repeat (first | exact Upd.head _ | apply Upd.tail | apply Upd.app)) ?_
          refine W_nil ?_
          refine W_seq ?_
          refine W_sr ?_
          refine W_loadB rfl ty33 rfl (by repeat (first | exact List.mem_cons_self | apply List.mem_cons_of_mem | apply List.mem_append_right)) rfl (by simp only [fillL, spliceL, Value.cells, List.take_zero, List.take_succ_cons, List.take_nil, List.drop_zero, List.drop_succ_cons, List.drop_nil, List.nil_append, List.cons_append, List.append_nil, List.length_cons, List.length_nil, Nat.zero_add, Nat.reduceAdd, List.toList_toArray]; rfl) rfl ?_
          refine W_callp (.cons rfl .nil) Try.call25 rfl (T := fun _ => True) trivial (within_pure _ _ _ _ _ _ _ _ hk) ?_
          refine W_not rfl rfl ?_
          refine W_nil ?_
          refine W_condS rfl (fun c4 => ?_) (fun c4 => ?_)
          · simp only [cond_true, cond_false, Bool.and_eq_true, Bool.or_eq_true, Bool.and_eq_false_iff, Bool.or_eq_false_iff, decide_eq_true_eq, decide_eq_false_iff_not, Bool.not_eq_true', Bool.not_eq_false', ne_eq, Decidable.not_not] at c4
            refine W_sr ?_
            refine W_build (l := stV zeroS (.slice none 0 0)) ty33 pl33 .nil rfl rfl rfl ?_
            refine W_storeA rfl rfl ty33 rfl rfl (by repeat (first | exact List.mem_cons_self | apply List.mem_cons_of_mem | apply List.mem_append_right)) (Nat.le_of_ble_eq_true rfl) (by simp only [fillL, spliceL, Value.cells, List.take_zero, List.take_succ_cons, List.take_nil, List.drop_zero, List.drop_succ_cons, List.drop_nil, List.nil_append, List.cons_append, List.append_nil, List.length_cons, List.length_nil, Nat.zero_add, Nat.reduceAdd, List.toList_toArray]; rfl) (by repeat (first | exact Upd.head _ | apply Upd.tail | apply Upd.app)) ?_
            refine W_assign rfl rfl ?_
            refine W_nil ?_
            refine W_ret2G (H2 := H) Try.results21 (.nil _) (.own rfl ty33 rfl (by repeat (first | exact List.mem_cons_self | apply List.mem_cons_of_mem | apply List.mem_append_right)) rfl) (.tmp rfl) (by repeat (first | exact HSub.refl _ | refine HSub.cons (by repeat (first | exact Take.here _ | apply Take.next | apply Take.app)) ?_ | refine HSub.app (by repeat (first | exact TakeS.here _ | apply TakeS.next | apply TakeS.app)) ?_ | refine HSub.drop ?_ | refine HSub.dropS ?_ | exact HSub.nil _)) ?_
            have e : one k l = (if chk (ofN k (takeN (shW k) l) (l.drop (sumL (shW k)))) = 0 then (ofN k (takeN (shW k) l) (l.drop (sumL (shW k))), 0) else (zeroS, chk (ofN k (takeN (shW k) l) (l.drop (sumL (shW k)))))) := by unfold one; rw [if_neg (by simp [hk]), if_neg c2]
            rw [ofN_in hk hb hlen hraw] at e
            rw [show inB (ofN k (takeN (shW k) l) (l.drop (sumL (shW k)))) = false from (by exact c4)] at e
            exact ⟨[], ⟨zeroS, none, 0⟩, by rw [e]; rfl, ⟨zero_ok, Holds.nil⟩, by rw [e]; rfl, rfl⟩
          · simp only [cond_true, cond_false, Bool.and_eq_true, Bool.or_eq_true, Bool.and_eq_false_iff, Bool.or_eq_false_iff, decide_eq_true_eq, decide_eq_false_iff_not, Bool.not_eq_true', Bool.not_eq_false', ne_eq, Decidable.not_not] at c4
            refine W_skip ?_
            refine W_sr ?_
            refine W_loadB rfl ty33 rfl (by repeat (first | exact List.mem_cons_self | apply List.mem_cons_of_mem | apply List.mem_append_right)) rfl (by simp only [fillL, spliceL, Value.cells, List.take_zero, List.take_succ_cons, List.take_nil, List.drop_zero, List.drop_succ_cons, List.drop_nil, List.nil_append, List.cons_append, List.append_nil, List.length_cons, List.length_nil, Nat.zero_add, Nat.reduceAdd, List.toList_toArray]; rfl) rfl ?_
            refine W_storeA rfl rfl ty33 rfl rfl (by repeat (first | exact List.mem_cons_self | apply List.mem_cons_of_mem | apply List.mem_append_right)) (Nat.le_of_ble_eq_true rfl) (by simp only [fillL, spliceL, Value.cells, List.take_zero, List.take_succ_cons, List.take_nil, List.drop_zero, List.drop_succ_cons, List.drop_nil, List.nil_append, List.cons_append, List.append_nil, List.length_cons, List.length_nil, Nat.zero_add, Nat.reduceAdd, List.toList_toArray]; rfl) (by repeat (first | exact Upd.head _ | apply Upd.tail | apply Upd.app)) ?_
            refine W_assign rfl rfl ?_
            refine W_nil ?_
            refine W_ret2G (H2 := HB' ++ H) Try.results21 (.nil _) (.own rfl ty33 rfl (by repeat (first | exact List.mem_cons_self | apply List.mem_cons_of_mem | apply List.mem_append_right)) rfl) (.tmp rfl) (by repeat (first | exact HSub.refl _ | refine HSub.cons (by repeat (first | exact Take.here _ | apply Take.next | apply Take.app)) ?_ | refine HSub.app (by repeat (first | exact TakeS.here _ | apply TakeS.next | apply TakeS.app)) ?_ | refine HSub.drop ?_ | refine HSub.dropS ?_ | exact HSub.nil _)) ?_
            have e : one k l = (if chk (ofN k (takeN (shW k) l) (l.drop (sumL (shW k)))) = 0 then (ofN k (takeN (shW k) l) (l.drop (sumL (shW k))), 0) else (zeroS, chk (ofN k (takeN (shW k) l) (l.drop (sumL (shW k)))))) := by unfold one; rw [if_neg (by simp [hk]), if_neg c2]
            rw [ofN_in hk hb hlen hraw] at e
            rw [show inB (ofN k (takeN (shW k) l) (l.drop (sumL (shW k)))) = true from (by exact c4)] at e
            obtain ⟨a9', c9', e9, _, _, hh9⟩ := Holds.of_own (w0 := w0) (H := HB' ++ []) hO' (fun p hp => List.mem_append_left _ hp)
            cases e9
            exact ⟨HB', ⟨ofN k (takeN (shW k) l) (l.drop (sumL (shW k))), a9, c9⟩, by rw [e]; rfl, ⟨ofN_ok hk64 hb (shW_8 k) _, by have h := hh9; rw [List.append_nil] at h; exact h⟩, by rw [e]; show Value.tuple #[.agg (stV (ofN k (takeN (shW k) l) (l.drop (sumL (shW k)))) _).toArray, _] = Value.tuple #[.agg (stV (ofN k (takeN (shW k) l) (l.drop (sumL (shW k)))) (.slice a9 (l.drop (sumL (shW k))).length c9)).toArray, _]; rw [List.length_drop]; rfl, rfl⟩
end Go.Proofs.Ytkhkagjbeilbgaa
