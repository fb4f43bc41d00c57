/-
  Own work: contracts of functions that the statement reaches, and plain facts on what they compute; each theorem says its conditions.
-/
import Derived.Test.YtkhkagjbeilbgaaS7
import Derived.Test.YtkhkagjbeilbgaaSlMore
set_option linter.all false
set_option linter.unusedSimpArgs false
set_option linter.unusedVariables false
namespace Go.Proofs.Ytkhkagjbeilbgaa
open Go Go.Sl
attribute [local irreducible] W
open Go.Script

theorem or_low {n b : Int} (hn : 0 ≤ n ∧ n < 72057594037927936) (hb : 0 ≤ b ∧ b < 256) : bitsOf .or .u64 (n * 256) b = n * 256 + b := by
  obtain ⟨N, rfl⟩ := Int.eq_ofNat_of_zero_le hn.1
  obtain ⟨B, rfl⟩ := Int.eq_ofNat_of_zero_le hb.1
  unfold bitsOf
  have e1 : (BitVec.ofInt IntKind.u64.bits ((N : Int) * 256)) = BitVec.ofNat 64 (N * 256) := by
    rw [show ((N : Int) * 256) = ((N * 256 : Nat) : Int) by simp]; exact BitVec.ofInt_natCast _ _
  have e2 : (BitVec.ofInt IntKind.u64.bits (B : Int)) = BitVec.ofNat 64 B := BitVec.ofInt_natCast _ _
  simp only [e1, e2]
  have e3 : (BitVec.ofNat 64 (N * 256) ||| BitVec.ofNat 64 B).toNat = N * 256 + B := by
    rw [BitVec.toNat_or, BitVec.toNat_ofNat, BitVec.toNat_ofNat, Nat.mod_eq_of_lt (by omega), Nat.mod_eq_of_lt (by omega)]
    have := Nat.shiftLeft_add_eq_or_of_lt (i := 8) (b := B) (by omega) N
    rw [Nat.shiftLeft_eq] at this
    exact this.symm
  show IntKind.u64.wrap (((BitVec.ofNat 64 (N * 256) ||| BitVec.ofNat 64 B).toNat : Nat) : Int) = _
  rw [e3, u64_id (by omega)]; simp
theorem numL_at {l : List Int} {m : Nat} (h : m < l.length) : numL (l.drop m) = l.getD m 0 + 256 * numL (l.drop (m + 1)) := by
  rw [List.drop_eq_getElem_cons h]
  simp [numL, List.getD, h]
theorem _root_.Go.Script.Bytes.drop {l : List Int} (h : Bytes l) (m : Nat) : Bytes (l.drop m) := fun b hb => h b (List.mem_of_mem_drop hb)
theorem _root_.Go.Script.Bytes.take {l : List Int} (h : Bytes l) (m : Nat) : Bytes (l.take m) := fun b hb => h b (List.mem_of_mem_take hb)
theorem _root_.Go.Script.Bytes.getD {l : List Int} (h : Bytes l) (m : Nat) : 0 ≤ l.getD m 0 ∧ l.getD m 0 < 256 := by
  by_cases hm : m < l.length
  · rw [List.getD, List.getElem?_eq_getElem hm]; exact h _ (List.getElem_mem hm)
  · rw [List.getD, List.getElem?_eq_none (by omega)]; decide
theorem pow_mono {a b : Nat} (h : a ≤ b) : (256 : Int) ^ a ≤ 256 ^ b := by
  have : 256 ^ a ≤ 256 ^ b := Nat.pow_le_pow_right (by decide) h
  have h2 : ((256 ^ a : Nat) : Int) ≤ ((256 ^ b : Nat) : Int) := Int.ofNat_le.2 this
  rwa [Int.natCast_pow, Int.natCast_pow] at h2
theorem numL_lt8 {l : List Int} (h : Bytes l) {k : Nat} (hk : l.length ≤ k) : 0 ≤ numL l ∧ numL l < 256 ^ k := ⟨numL_nonneg h, Int.lt_of_lt_of_le (numL_lt h) (pow_mono hk)⟩
theorem numL_snoc : ∀ (l : List Int) (b : Int), numL (l ++ [b]) = numL l + 256 ^ l.length * b
  | [], b => by simp [numL]
  | a :: l, b => by
    show a + 256 * numL (l ++ [b]) = a + 256 * numL l + 256 ^ (l.length + 1) * b
    rw [numL_snoc l b, Int.pow_succ, Int.mul_add, ← Int.mul_assoc, Int.mul_comm 256 (256 ^ l.length), Int.add_assoc]
theorem take_at {l : List Int} {i : Nat} (h : i < l.length) : l.take (i + 1) = l.take i ++ [l.getD i 0] := by
  rw [List.take_add_one]; simp [List.getD, h]
set_option maxHeartbeats 1000000 in
theorem number_q {w0 : World} {H : Heap} {l : List Int} {ad : Option Addr} {cap : Nat} (hl : l.length ≤ 8) (hb : Bytes l) (hrow : Holds w0 H ad (bytesV l))  : PureAt Try.prog w0 H 37 [.slice ad l.length cap] (.int .u64 (numL l)) := by
  refine L_enter Try.func37 rfl Try.ntmps37 rfl rfl ?_
  refine W_sr ?_
  refine W_assign rfl rfl ?_
  refine W_nil ?_
  refine W_sr ?_
  refine W_assign rfl rfl ?_
  refine W_nil ?_
  refine W_seq ?_
  refine W_sr ?_
  refine W_move rfl rfl ?_
  refine W_len rfl ty22 rfl rfl ?_
  refine W_bin rfl rfl (b_sub (m := (l.length : Int) - 1) ((i64w (by omega)).trans (by omega))) rfl ?_
  refine W_assign rfl rfl ?_
  refine W_nil ?_
  refine W_block ?_
  refine W_loopC (X := Nat) [(0, _)] (fun (m : Nat) => [(3, .int .u64 (numL (l.drop m))), (4, .int .i64 ((m : Int) - 1))]) (fun _ => _) (fun (m : Nat) => H) (fun (m : Nat) => m ≤ l.length) (fun (m : Nat) => m) l.length (by omega) (sub_cons rfl (sub_nil _)) (sub_cons (by simp [numL]; rfl) (sub_cons rfl (sub_nil _))) rfl (by repeat (first | exact HSub.refl _ | refine HSub.cons (by repeat (first | exact Take.here _ | apply Take.next | apply Take.app)) ?_ | refine HSub.app (by repeat (first | exact TakeS.here _ | apply TakeS.next | apply TakeS.app)) ?_ | refine HSub.drop ?_ | refine HSub.dropS ?_ | exact HSub.nil _)) ?_
  intro m hm
  simp only [List.cons_append, List.nil_append]
  refine W_seq ?_
  refine W_sr ?_
  refine W_move rfl rfl ?_
  refine W_bin rfl rfl b_geq rfl ?_
  refine W_nil ?_
  refine W_condPS (p := 0 < m) rfl (by simp; omega) (fun c0 => ?_) (fun c0 => ?_)
  · skip
    refine W_skip ?_
    refine W_seq ?_
    refine W_block ?_
    refine W_region ?_
    obtain ⟨j, rfl⟩ : ∃ j, m = j + 1 := ⟨m - 1, by omega⟩
    have hn8 := numL_lt8 (hb.drop (j + 1)) (k := 7) (by simp; omega)
    obtain ⟨b0, o0, rfl, hcb⟩ := hrow.at (i := j) (v := .int .u8 (l.getD (j) 0)) (bytesV_get (by omega))
    have hbb := hb.getD (j)
    refine W_move rfl rfl ?_
    refine W_bin rfl rfl (b_shl (m := numL (l.drop (j + 1)) * 256) (by decide) (by rw [show (2 : Int) ^ (min (8 : Int).toNat IntKind.u64.bits) = 256 by decide]; exact u64_id (by omega))) rfl ?_
    refine W_move rfl rfl ?_
    refine W_move rfl rfl ?_
    refine W_indexAddr (j := j) rfl rfl ty22 ty5 (by first | rfl | omega) (by first | decide | omega) rfl rfl ?_
    refine W_load rfl ty5 rfl (v := .int .u8 (l.getD j 0)) (by rw [Nat.mul_one]; exact hcb) rfl ?_
    refine W_conv rfl ty5 ty27 (m := l.getD j 0) (u64_id (by omega)) rfl ?_
    refine W_bin rfl rfl (b_or (m := numL (l.drop j)) (by rw [or_low (n := numL (l.drop (j + 1))) (by omega) hbb, numL_at (l := l) (m := j) (by omega)]; omega)) rfl ?_
    refine W_assign rfl rfl ?_
    refine W_nil ?_
    refine W_blk ?_
    refine W_region ?_
    refine W_move rfl rfl ?_
    refine W_bin rfl rfl (b_sub (m := (j : Int) - 1) ((i64w (by omega)).trans (by omega))) rfl ?_
    refine W_assign rfl rfl ?_
    refine W_nil ?_
    refine W_again j (by omega) (by omega) (sub_cons rfl (sub_cons rfl (sub_cons rfl (sub_nil _)))) rfl (by repeat (first | exact HSub.refl _ | refine HSub.cons (by repeat (first | exact Take.here _ | apply Take.next | apply Take.app)) ?_ | refine HSub.app (by repeat (first | exact TakeS.here _ | apply TakeS.next | apply TakeS.app)) ?_ | refine HSub.drop ?_ | refine HSub.dropS ?_ | exact HSub.nil _))
  · skip
    refine W_exit rfl ?_
    refine W_sr ?_
    refine W_move rfl rfl ?_
    refine W_assign rfl rfl ?_
    refine W_nil ?_
    refine W_ret1m (H2 := H) Try.results37 rfl (.nil _) (by repeat (first | exact HSub.refl _ | refine HSub.cons (by repeat (first | exact Take.here _ | apply Take.next | apply Take.app)) ?_ | refine HSub.app (by repeat (first | exact TakeS.here _ | apply TakeS.next | apply TakeS.app)) ?_ | refine HSub.drop ?_ | refine HSub.dropS ?_ | exact HSub.nil _)) ?_
    obtain rfl : m = 0 := by omega
    exact ⟨rfl, rfl⟩

theorem u64_mul (z w : Int) : IntKind.u64.wrap (u64 z * w) = u64 (z * w) := by rw [u64_wrap]; unfold u64; simp [Int.mul_emod]
theorem take_step {l : List Int} {i : Nat} (hb : Bytes l) (h : i < l.length) (hi : i < 8) : u64 (256 ^ i) = 256 ^ i ∧ IntKind.u64.wrap (u64 (256 ^ i) * l.getD i 0) = 256 ^ i * l.getD i 0 ∧ IntKind.u64.wrap (numL (l.take i) + 256 ^ i * l.getD i 0) = numL (l.take (i + 1)) := by
  have hbb := hb.getD i
  have h1 := numL_lt8 (hb.take i) (k := i) (by simp; omega)
  have h2 := numL_lt8 (hb.take (i + 1)) (k := i + 1) (by simp; omega)
  have hp : (256 : Int) ^ (i + 1) ≤ 256 ^ 8 := pow_mono (by omega)
  have hq : (256 : Int) ^ i ≤ 256 ^ 7 := pow_mono (by omega)
  have h0 : (0 : Int) < 256 ^ i := Int.pow_pos (by decide)
  have e1 : u64 (256 ^ i) = 256 ^ i := by unfold u64; omega
  have e3 : numL (l.take (i + 1)) = numL (l.take i) + 256 ^ i * l.getD i 0 := by
    rw [take_at h, numL_snoc, List.length_take, Nat.min_eq_left (by omega)]
  have hm : 0 ≤ 256 ^ i * l.getD i 0 := Int.mul_nonneg (Int.le_of_lt h0) hbb.1
  refine ⟨e1, ?_, ?_⟩
  · rw [e1, u64_id]; omega
  · rw [u64_id, e3]; omega
set_option maxHeartbeats 1000000 in
theorem take_q {w0 : World} {H : Heap} {l : List Int} {ad : Option Addr} {cap : Nat} {k : Nat} (hk : k ≤ 8) (hkl : k ≤ l.length) (hb : Bytes l) (hrow : Holds w0 H ad (bytesV l))  : PureAt Try.prog w0 H 39 [.slice ad l.length cap, .int .i64 (k : Int)] (.int .u64 (numL (l.take k))) := by
  refine L_enter Try.func39 rfl Try.ntmps39 rfl rfl ?_
  refine W_sr ?_
  refine W_assign rfl rfl ?_
  refine W_nil ?_
  refine W_sr ?_
  refine W_assign rfl rfl ?_
  refine W_assign rfl rfl ?_
  refine W_nil ?_
  refine W_seq ?_
  refine W_sr ?_
  refine W_assign rfl rfl ?_
  refine W_nil ?_
  refine W_block ?_
  refine W_loopC (X := Nat) [(0, _), (1, _)] (fun (i : Nat) => [(5, .int .u64 (numL (l.take i))), (6, .int .u64 (u64 (256 ^ i))), (7, .int .i64 (i : Int))]) (fun _ => _) (fun (i : Nat) => H) (fun (i : Nat) => i ≤ k) (fun (i : Nat) => k - i) 0 (by omega) (sub_cons rfl (sub_cons rfl (sub_nil _))) (sub_cons rfl (sub_cons rfl (sub_cons rfl (sub_nil _)))) rfl (by repeat (first | exact HSub.refl _ | refine HSub.cons (by repeat (first | exact Take.here _ | apply Take.next | apply Take.app)) ?_ | refine HSub.app (by repeat (first | exact TakeS.here _ | apply TakeS.next | apply TakeS.app)) ?_ | refine HSub.drop ?_ | refine HSub.dropS ?_ | exact HSub.nil _)) ?_
  intro i hi
  simp only [List.cons_append, List.nil_append]
  refine W_seq ?_
  refine W_sr ?_
  refine W_move rfl rfl ?_
  refine W_move rfl rfl ?_
  refine W_bin rfl rfl b_lss rfl ?_
  refine W_nil ?_
  refine W_condPS (p := (i : Int) < (k : Int)) rfl (by simp) (fun c0 => ?_) (fun c0 => ?_)
  · skip
    refine W_skip ?_
    refine W_seq ?_
    refine W_block ?_
    refine W_sr ?_
    obtain ⟨b0, o0, rfl, hcb⟩ := hrow.at (i := i) (v := .int .u8 (l.getD (i) 0)) (bytesV_get (by omega))
    have hbb := hb.getD (i)
    obtain ⟨hs1, hs2, hs3⟩ := take_step hb (i := i) (by omega) (by omega)
    refine W_move rfl rfl ?_
    refine W_move rfl rfl ?_
    refine W_move rfl rfl ?_
    refine W_move rfl rfl ?_
    refine W_indexAddr (j := i) rfl rfl ty22 ty5 (by first | rfl | omega) (by first | decide | omega) rfl rfl ?_
    refine W_load rfl ty5 rfl (v := .int .u8 (l.getD i 0)) (by rw [Nat.mul_one]; exact hcb) rfl ?_
    refine W_conv rfl ty5 ty27 (m := l.getD i 0) (u64_id (by omega)) rfl ?_
    refine W_bin rfl rfl (b_mul hs2) rfl ?_
    refine W_bin rfl rfl (b_add hs3) rfl ?_
    refine W_assign rfl rfl ?_
    refine W_nil ?_
    refine W_region ?_
    refine W_move rfl rfl ?_
    refine W_bin rfl rfl (b_mul ((u64_mul _ _).trans (congrArg u64 (Int.pow_succ 256 i).symm))) rfl ?_
    refine W_assign rfl rfl ?_
    refine W_nil ?_
    refine W_blk ?_
    refine W_region ?_
    refine W_move rfl rfl ?_
    refine W_bin rfl rfl (b_add (m := ((i + 1 : Nat) : Int)) ((i64w (by omega)).trans (by omega))) rfl ?_
    refine W_assign rfl rfl ?_
    refine W_nil ?_
    refine W_again (i + 1) (by omega) (by omega) (sub_cons rfl (sub_cons rfl (sub_cons rfl (sub_cons rfl (sub_cons rfl (sub_nil _)))))) rfl (by repeat (first | exact HSub.refl _ | refine HSub.cons (by repeat (first | exact Take.here _ | apply Take.next | apply Take.app)) ?_ | refine HSub.app (by repeat (first | exact TakeS.here _ | apply TakeS.next | apply TakeS.app)) ?_ | refine HSub.drop ?_ | refine HSub.dropS ?_ | exact HSub.nil _))
  · skip
    refine W_exit rfl ?_
    refine W_sr ?_
    refine W_move rfl rfl ?_
    refine W_assign rfl rfl ?_
    refine W_nil ?_
    refine W_ret1m (H2 := H) Try.results39 rfl (.nil _) (by repeat (first | exact HSub.refl _ | refine HSub.cons (by repeat (first | exact Take.here _ | apply Take.next | apply Take.app)) ?_ | refine HSub.app (by repeat (first | exact TakeS.here _ | apply TakeS.next | apply TakeS.app)) ?_ | refine HSub.drop ?_ | refine HSub.dropS ?_ | exact HSub.nil _)) ?_
    obtain rfl : i = k := by omega
    exact ⟨rfl, rfl⟩
set_option maxHeartbeats 1000000 in
theorem size_pure (c : Int) : Pure Try.prog (fun _ => True) 28 [.int .u8 c] (.int .i64 (if c = 67 then 2 else if c = 120 ∨ c = 121 then 8 else 1)) := by
  intro w0 H hT
  refine L_enter Try.func28 rfl Try.ntmps28 rfl rfl ?_
  refine W_sr ?_
  refine W_assign rfl rfl ?_
  refine W_nil ?_
  refine W_seq ?_
  refine W_sr ?_
  refine W_move rfl rfl ?_
  refine W_bin rfl rfl b_eql rfl ?_
  refine W_nil ?_
  refine W_condS rfl (fun c0 => ?_) (fun c0 => ?_)
  · simp only [cond_true, cond_false, Bool.and_eq_true, Bool.or_eq_true, Bool.and_eq_false_iff, Bool.or_eq_false_iff, decide_eq_true_eq, decide_eq_false_iff_not, Bool.not_eq_true', Bool.not_eq_false', ne_eq, Decidable.not_not] at c0
    refine W_sr ?_
    refine W_assign rfl rfl ?_
    refine W_nil ?_
    refine W_ret1m Try.results28 rfl (.nil _) (.refl _) ?_
    exact ⟨by simp [*], rfl⟩
  · simp only [cond_true, cond_false, Bool.and_eq_true, Bool.or_eq_true, Bool.and_eq_false_iff, Bool.or_eq_false_iff, decide_eq_true_eq, decide_eq_false_iff_not, Bool.not_eq_true', Bool.not_eq_false', ne_eq, Decidable.not_not] at c0
    refine W_skip ?_
    refine W_seq ?_
    refine W_sr ?_
    refine W_move rfl rfl ?_
    refine W_bin rfl rfl b_eql rfl ?_
    refine W_move rfl rfl ?_
    apply W_or
    iterate 4 exact rfl
    case h1 =>
      intro hg2
      refine W_gyes rfl rfl ?_
      refine W_move rfl rfl ?_
      refine W_gyes rfl rfl ?_
      refine W_bin rfl rfl b_eql rfl ?_
      exact W_met rfl (by repeat (first | exact .refl | refine .cons rfl ?_))
    refine W_nil ?_
    refine W_condS rfl (fun c1 => ?_) (fun c1 => ?_)
    · simp only [cond_true, cond_false, Bool.and_eq_true, Bool.or_eq_true, Bool.and_eq_false_iff, Bool.or_eq_false_iff, decide_eq_true_eq, decide_eq_false_iff_not, Bool.not_eq_true', Bool.not_eq_false', ne_eq, Decidable.not_not] at c1
      refine W_sr ?_
      refine W_assign rfl rfl ?_
      refine W_nil ?_
      refine W_ret1m Try.results28 rfl (.nil _) (.refl _) ?_
      exact ⟨by simp [*], rfl⟩
    · simp only [cond_true, cond_false, Bool.and_eq_true, Bool.or_eq_true, Bool.and_eq_false_iff, Bool.or_eq_false_iff, decide_eq_true_eq, decide_eq_false_iff_not, Bool.not_eq_true', Bool.not_eq_false', ne_eq, Decidable.not_not] at c1
      refine W_skip ?_
      refine W_sr ?_
      refine W_assign rfl rfl ?_
      refine W_nil ?_
      refine W_ret1m Try.results28 rfl (.nil _) (.refl _) ?_
      exact ⟨by simp [*], rfl⟩
end Go.Proofs.Ytkhkagjbeilbgaa
