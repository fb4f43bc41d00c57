/-
  Own work: contracts of functions that the statement reaches, and plain facts on what they compute; each theorem says its conditions.
-/
import Derived.Test.YtpfoecmianohjaaDoorA6
set_option linter.all false
set_option linter.unusedSimpArgs false
set_option linter.unusedVariables false
namespace Go.Proofs.YtpfoecmianohjaaDoor
open Go Go.Sl

theorem bitsN_and : ∀ (m : Nat) (a b : Nat), a < 2 ^ m → b < 2 ^ m → bitsN 0 m a b = ((a &&& b : Nat) : Int)
  | 0, a, b, ha, hb => by
    have h1 : a = 0 := by simpa using ha
    have h2 : b = 0 := by simpa using hb
    subst h1 h2; simp [bitsN]
  | m + 1, a, b, ha, hb => by
    have ih := bitsN_and m (a / 2) (b / 2) (by omega) (by omega)
    have e1 : ((a : Int) / 2) = ((a / 2 : Nat) : Int) := by omega
    have e2 : ((b : Int) / 2) = ((b / 2 : Nat) : Int) := by omega
    simp only [bitsN, e1, e2, ih]
    have h1 : (a &&& b) / 2 = (a / 2 &&& b / 2) := Nat.and_div_two
    have h2 := @Nat.and_mod_two_eq_one a b
    rw [← h1]
    clear ih h1
    have e3 : ((a : Int) % 2 = 1) ↔ a % 2 = 1 := by omega
    have e4 : ((b : Int) % 2 = 1) ↔ b % 2 = 1 := by omega
    simp only [bitS, e3, e4]
    generalize a &&& b = c at h2 ⊢
    by_cases p : a % 2 = 1 <;> by_cases q : b % 2 = 1 <;> simp [p, q] at h2 ⊢ <;> omega
theorem bitsN_or : ∀ (m : Nat) (a b : Nat), a < 2 ^ m → b < 2 ^ m → bitsN 1 m a b = ((a ||| b : Nat) : Int)
  | 0, a, b, ha, hb => by
    have h1 : a = 0 := by simpa using ha
    have h2 : b = 0 := by simpa using hb
    subst h1 h2; simp [bitsN]
  | m + 1, a, b, ha, hb => by
    have ih := bitsN_or m (a / 2) (b / 2) (by omega) (by omega)
    have e1 : ((a : Int) / 2) = ((a / 2 : Nat) : Int) := by omega
    have e2 : ((b : Int) / 2) = ((b / 2 : Nat) : Int) := by omega
    simp only [bitsN, e1, e2, ih]
    have h1 : (a ||| b) / 2 = (a / 2 ||| b / 2) := Nat.or_div_two
    have h2 := @Nat.or_mod_two_eq_one a b
    rw [← h1]
    clear ih h1
    have e3 : ((a : Int) % 2 = 1) ↔ a % 2 = 1 := by omega
    have e4 : ((b : Int) % 2 = 1) ↔ b % 2 = 1 := by omega
    simp only [bitS, e3, e4]
    generalize a ||| b = c at h2 ⊢
    by_cases p : a % 2 = 1 <;> by_cases q : b % 2 = 1 <;> simp [p, q] at h2 ⊢ <;> omega
theorem bitsN_xor : ∀ (m : Nat) (a b : Nat), a < 2 ^ m → b < 2 ^ m → bitsN 2 m a b = ((a ^^^ b : Nat) : Int)
  | 0, a, b, ha, hb => by
    have h1 : a = 0 := by simpa using ha
    have h2 : b = 0 := by simpa using hb
    subst h1 h2; simp [bitsN]
  | m + 1, a, b, ha, hb => by
    have ih := bitsN_xor m (a / 2) (b / 2) (by omega) (by omega)
    have e1 : ((a : Int) / 2) = ((a / 2 : Nat) : Int) := by omega
    have e2 : ((b : Int) / 2) = ((b / 2 : Nat) : Int) := by omega
    simp only [bitsN, e1, e2, ih]
    have h1 : (a ^^^ b) / 2 = (a / 2 ^^^ b / 2) := Nat.xor_div_two
    have h2 := @Nat.xor_mod_two_eq_one a b
    rw [← h1]
    clear ih h1
    have e3 : ((a : Int) % 2 = 1) ↔ a % 2 = 1 := by omega
    have e4 : ((b : Int) % 2 = 1) ↔ b % 2 = 1 := by omega
    simp only [bitS, e3, e4]
    generalize a ^^^ b = c at h2 ⊢
    by_cases p : a % 2 = 1 <;> by_cases q : b % 2 = 1 <;> simp [p, q] at h2 ⊢ <;> omega
/-- both are words -/
def Wd (a : Int) : Prop := 0 ≤ a ∧ a ≤ 18446744073709551615
theorem wd_nat {a : Int} (h : Wd a) : ∃ x : Nat, a = x ∧ x < 2 ^ 64 := by
  obtain ⟨h0, h1⟩ := h
  obtain ⟨x, rfl⟩ := Int.eq_ofNat_of_zero_le h0
  exact ⟨x, rfl, by omega⟩
theorem bitsOf_nat (op : BinOp) (x y : Nat) (z : Nat) (hz : z < 2 ^ 64) (h : (match op with
        | Go.BinOp.and => BitVec.ofNat 64 x &&& BitVec.ofNat 64 y
        | Go.BinOp.or => BitVec.ofNat 64 x ||| BitVec.ofNat 64 y
        | Go.BinOp.xor => BitVec.ofNat 64 x ^^^ BitVec.ofNat 64 y
        | _ => BitVec.ofNat 64 x &&& ~~~(BitVec.ofNat 64 y)).toNat = z) : bitsOf op .u64 x y = (z : Int) := by
  have e : bitsOf op .u64 x y = IntKind.u64.wrap (z : Int) := by
    unfold bitsOf
    rw [show IntKind.u64.bits = 64 from rfl]
    rw [BitVec.ofInt_natCast, BitVec.ofInt_natCast]
    exact congrArg (fun n : Nat => IntKind.u64.wrap (n : Int)) h
  rw [e]
  exact u64w ⟨by omega, by omega⟩
theorem bits_and {a b : Int} (ha : Wd a) (hb : Wd b) : bitsOf .and .u64 a b = bitsN 0 64 a b := by
  obtain ⟨x, rfl, hx⟩ := wd_nat ha
  obtain ⟨y, rfl, hy⟩ := wd_nat hb
  rw [bitsN_and 64 x y hx hy]
  refine bitsOf_nat .and x y _ (Nat.lt_of_le_of_lt Nat.and_le_left hx) ?_
  simp only [BitVec.toNat_and, BitVec.toNat_ofNat, Nat.mod_eq_of_lt hx, Nat.mod_eq_of_lt hy]
theorem bits_or {a b : Int} (ha : Wd a) (hb : Wd b) : bitsOf .or .u64 a b = bitsN 1 64 a b := by
  obtain ⟨x, rfl, hx⟩ := wd_nat ha
  obtain ⟨y, rfl, hy⟩ := wd_nat hb
  rw [bitsN_or 64 x y hx hy]
  refine bitsOf_nat .or x y _ (Nat.or_lt_two_pow hx hy) ?_
  simp only [BitVec.toNat_or, BitVec.toNat_ofNat, Nat.mod_eq_of_lt hx, Nat.mod_eq_of_lt hy]
theorem bits_xor {a b : Int} (ha : Wd a) (hb : Wd b) : bitsOf .xor .u64 a b = bitsN 2 64 a b := by
  obtain ⟨x, rfl, hx⟩ := wd_nat ha
  obtain ⟨y, rfl, hy⟩ := wd_nat hb
  rw [bitsN_xor 64 x y hx hy]
  refine bitsOf_nat .xor x y _ (Nat.xor_lt_two_pow hx hy) ?_
  simp only [BitVec.toNat_xor, BitVec.toNat_ofNat, Nat.mod_eq_of_lt hx, Nat.mod_eq_of_lt hy]
theorem uw (m : Int) : IntKind.u64.wrap m = m % 18446744073709551616 := by simp [IntKind.wrap, IntKind.signed, IntKind.bits]
theorem iw (m : Int) : IntKind.i64.wrap m = (m + 9223372036854775808) % 18446744073709551616 - 9223372036854775808 := by
  simp [IntKind.wrap, IntKind.signed, IntKind.bits]
  have := Int.emod_lt_of_pos m (show (0:Int) < 18446744073709551616 by decide)
  have := Int.emod_nonneg m (show (18446744073709551616 : Int) ≠ 0 by decide)
  omega
theorem shl_plain (top : Bool) (a : Int) : ∀ m : Nat, IntKind.u64.wrap (shiftN 8 top m a) = IntKind.u64.wrap (a * 2 ^ m)
  | 0 => by simp [shiftN]
  | m + 1 => by
    have ih := shl_plain top a m
    simp only [shiftN, if_true]
    rw [uw, uw] at *
    rw [uw, Int.pow_succ, ← Int.mul_assoc, Int.mul_emod (a * 2 ^ m), ← ih]
    simp [Int.mul_emod]
theorem shr_plain {a : Int} : ∀ m : Nat, shiftN 9 false m a = a / 2 ^ m
  | 0 => by simp [shiftN]
  | m + 1 => by
    simp only [shiftN, shr_plain m]
    rw [Int.pow_succ, ← Int.ediv_ediv_of_nonneg (Int.le_of_lt (Int.pow_pos (by decide)))]
    simp
theorem sar_plain (p : Int) (hp : p ≠ 8) {a : Int} (h1 : 9223372036854775808 ≤ a) (h2 : a ≤ 18446744073709551615) : ∀ m : Nat,
    shiftN p true m a - 18446744073709551616 = (a - 18446744073709551616) / 2 ^ m ∧ 9223372036854775808 ≤ shiftN p true m a ∧ shiftN p true m a ≤ 18446744073709551615
  | 0 => by simp [shiftN]; omega
  | m + 1 => by
    have ih := sar_plain p hp h1 h2 m
    simp only [shiftN, if_neg hp, if_true]
    rw [Int.pow_succ, ← Int.ediv_ediv_of_nonneg (Int.le_of_lt (Int.pow_pos (by decide))), ← ih.1]
    omega
theorem shr_plain' (p : Int) (hp : p ≠ 8) {a : Int} : ∀ m : Nat, shiftN p false m a = a / 2 ^ m
  | 0 => by simp [shiftN]
  | m + 1 => by
    simp only [shiftN, shr_plain' p hp m]
    rw [Int.pow_succ, ← Int.ediv_ediv_of_nonneg (Int.le_of_lt (Int.pow_pos (by decide)))]
    simp [hp]
theorem wd_w (m : Int) : Wd (IntKind.u64.wrap m) := wrap_u64_bd m
theorem do_eq {p a b : Int} (hp : 0 ≤ p ∧ p ≤ 12) (ha : Wd a) (hb : Wd b) : doS p a b = refDoS p a b := by
  unfold doS refDoS
  by_cases h0 : p = 0
  · rw [if_pos h0, if_pos h0]
  rw [if_neg h0, if_neg h0]
  by_cases h0 : p = 1
  · rw [if_pos h0, if_pos h0]
  rw [if_neg h0, if_neg h0]
  by_cases h0 : p = 2
  · rw [if_pos h0, if_pos h0]
  rw [if_neg h0, if_neg h0]
  by_cases h0 : p = 3
  · rw [if_pos h0, if_pos h0]
    by_cases hb0 : b = 0
    · rw [if_pos hb0, if_pos hb0]
    · rw [if_neg hb0, if_neg hb0]
      exact IntWalk.u64_quo a b ⟨ha.1, ha.2, by have := hb.1; omega⟩
  rw [if_neg h0, if_neg h0]
  by_cases h0 : p = 4
  · rw [if_pos h0, if_pos h0]
    by_cases hb0 : b = 0
    · rw [if_pos hb0, if_pos hb0]
    · rw [if_neg hb0, if_neg hb0]
      rw [Int.tmod_eq_emod_of_nonneg ha.1]
      have hb1 : 0 < b := by have := hb.1; omega
      have e := Int.mul_ediv_add_emod a b
      have r0 := Int.emod_nonneg a (show b ≠ 0 from hb0)
      have r1 := Int.emod_lt_of_pos a hb1
      have q0 := Int.ediv_nonneg ha.1 hb.1
      have m0 : 0 ≤ a / b * b := Int.mul_nonneg q0 hb.1
      rw [Int.mul_comm] at e
      have := ha.2; have := ha.1
      rw [u64w (m := a / b * b) ⟨m0, by omega⟩, u64w (m := a - a / b * b) ⟨by omega, by omega⟩]
      omega
  rw [if_neg h0, if_neg h0]
  by_cases h0 : p = 5
  · rw [if_pos h0, if_pos h0]; exact bits_and ha hb
  rw [if_neg h0, if_neg h0]
  by_cases h0 : p = 6
  · rw [if_pos h0, if_pos h0]; exact bits_or ha hb
  rw [if_neg h0, if_neg h0]
  by_cases h0 : p = 7
  · rw [if_pos h0, if_pos h0]; exact bits_xor ha hb
  rw [if_neg h0, if_neg h0]
  have hk : b.tmod 64 = b % 64 := Int.tmod_eq_emod_of_nonneg hb.1
  have hm : min (b % 64).toNat 64 = (b % 64).toNat := by omega
  rw [hk, hm]
  by_cases h8 : p = 8
  · rw [if_pos h8, if_neg (by omega), if_neg (by omega)]
    subst h8
    rw [← shl_plain (decide ((8 : Int) = 10) && decide (9223372036854775808 ≤ a)) a]
    exact u64w (shiftN_bd _ _ ha _)
  rw [if_neg h8]
  have hpow : (0 : Int) < 2 ^ (b % 64).toNat := Int.pow_pos (by decide)
  by_cases h9 : p = 9
  · rw [if_pos h9, if_neg (by omega), if_neg (by omega)]
    subst h9
    rw [Int.fdiv_eq_ediv_of_nonneg _ (Int.le_of_lt hpow)]
    simp only [show decide ((9 : Int) = 10) = false by decide, Bool.false_and]
    exact (shr_plain' 9 (by decide) _).symm
  rw [if_neg h9]
  by_cases h10 : p = 10
  · rw [if_pos h10, if_neg (by omega), if_neg (by omega)]
    subst h10
    rw [Int.fdiv_eq_ediv_of_nonneg _ (Int.le_of_lt hpow)]
    by_cases ht : 9223372036854775808 ≤ a
    · simp only [decide_true, ht, Bool.true_and]
      have h := sar_plain 10 (by decide) ht ha.2 (b % 64).toNat
      have e : IntKind.i64.wrap a = a - 18446744073709551616 := by rw [iw]; have := ha.2; omega
      rw [e, ← h.1, uw]
      omega
    · simp only [ht, decide_false, Bool.and_false]
      have e : IntKind.i64.wrap a = a := by rw [iw]; have := ha.1; omega
      rw [e, shr_plain' 10 (by decide)]
      refine u64w ⟨Int.ediv_nonneg ha.1 (Int.le_of_lt hpow), ?_⟩
      have := Int.ediv_le_self (2 ^ (b % 64).toNat) ha.1
      have := ha.2
      omega
  rw [if_neg h10]
  by_cases h11 : p = 11
  · rw [if_pos h11, if_pos h11]
  · rw [if_neg h11, if_neg h11, if_pos (by omega)]
theorem less_eq {a b : Int} (ha : Wd a) (hb : Wd b) : decide (IntKind.i64.wrap a < IntKind.i64.wrap b) = lessS a b := by
  unfold lessS
  rw [iw, iw]
  have := ha.1; have := ha.2; have := hb.1; have := hb.2
  by_cases h1 : 9223372036854775808 ≤ a <;> by_cases h2 : 9223372036854775808 ≤ b <;> simp [h1, h2] <;> omega
theorem jump_eq {p a b : Int} (ha : Wd a) (hb : Wd b) : jumpS p a b = refJumpS p a b := by
  unfold jumpS refJumpS
  rw [less_eq ha hb, less_eq hb ha]
  have hn := bitsN_bd 0 64 a b
  rw [bits_and ha hb]
  have e1 : decide (a ≠ b) = !decide (a = b) := by simp
  have e2 : decide (b ≤ a) = !decide (a < b) := by by_cases h : a < b <;> simp [h] <;> omega
  have e3 : decide (a ≤ b) = !decide (b < a) := by by_cases h : b < a <;> simp [h] <;> omega
  have e4 : decide (bitsN 0 64 a b ≠ 0) = decide (0 < bitsN 0 64 a b) := by
    by_cases h : bitsN 0 64 a b = 0
    · simp [h]
    · have : 0 < bitsN 0 64 a b := by omega
      simp [h, this]
  rw [e1, e2, e3, e4]
theorem plain1_bd {op : Int} (h : cls op = 1) : 0 ≤ plainOf op ∧ plainOf op ≤ 12 := by
  rw [plain1 h]
  have := cls1.1 h
  split <;> omega
theorem doR_eq {op a b : Int} (ha : Wd a) (hb : Wd b) : doR op a b = refDoR op a b := by
  unfold doR refDoR
  by_cases h : cls op = 1
  · rw [if_pos h, if_pos h, do_eq (plain1_bd h) ha hb]
  · rw [if_neg h, if_neg h]
theorem jumpR_eq {op a b : Int} (ha : Wd a) (hb : Wd b) : jumpR op a b = refJumpR op a b := by
  unfold jumpR refJumpR
  by_cases h : cls op = 2
  · rw [if_pos h, if_pos h, jump_eq ha hb]
  · rw [if_neg h, if_neg h]
end Go.Proofs.YtpfoecmianohjaaDoor
