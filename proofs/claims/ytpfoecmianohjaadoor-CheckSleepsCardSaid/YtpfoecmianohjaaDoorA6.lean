/-
  Own work: contracts of functions that the statement reaches, and plain facts on what they compute; each theorem says its conditions.
-/
import Derived.Test.YtpfoecmianohjaaDoorA5
set_option linter.all false
set_option linter.unusedSimpArgs false
set_option linter.unusedVariables false
namespace Go.Proofs.YtpfoecmianohjaaDoor
open Go Go.Sl
attribute [local irreducible] W

def kName (op : Int) : ByteArray :=
  if 0 ≤ op ∧ op < 12 then sumsR.getD op.toNat ⟨#[]⟩ else if 16 ≤ op ∧ op < 28 then sumsR.getD (op - 16).toNat ⟨#[]⟩
  else if 33 ≤ op ∧ op < 42 then jumpsR.getD (op - 33).toNat ⟨#[]⟩ else if 49 ≤ op ∧ op < 58 then jumpsR.getD (op - 49).toNat ⟨#[]⟩
  else if op = 12 then ⟨#[110, 101, 103]⟩
  else if op = 32 then ⟨#[106, 97]⟩
  else if op = 64 then ⟨#[108, 100, 115, 116]⟩
  else if op = 65 then ⟨#[115, 116, 115, 116]⟩
  else if op = 66 then ⟨#[108, 100, 118]⟩
  else if op = 67 then ⟨#[115, 116, 118]⟩
  else if op = 72 then ⟨#[99, 97, 108, 108]⟩
  else if op = 73 then ⟨#[101, 120, 105, 116]⟩
  else ⟨#[]⟩
def kShape (op : Int) : ByteArray :=
  if 0 ≤ op ∧ op < 12 then ⟨#[100, 105]⟩ else if 16 ≤ op ∧ op < 28 then ⟨#[100, 115]⟩ else if 33 ≤ op ∧ op < 42 then ⟨#[100, 105, 111]⟩ else if 49 ≤ op ∧ op < 58 then ⟨#[100, 115, 111]⟩
  else if op = 12 then ⟨#[100]⟩
  else if op = 32 then ⟨#[111]⟩
  else if op = 64 then ⟨#[100, 111]⟩
  else if op = 65 then ⟨#[111, 115]⟩
  else if op = 66 then ⟨#[100, 115, 111]⟩
  else if op = 67 then ⟨#[100, 111, 115]⟩
  else if op = 72 then ⟨#[105]⟩
  else if op = 73 then ⟨#[]⟩
  else ⟨#[]⟩
theorem kindR_eq (op : Int) : kindR op = .tuple #[.string (kName op), .string (kShape op), .int .i64 (cls op)] := by
  have hc : ∀ c : Int, cls op = c → kindR op = .tuple #[.string (kName op), .string (kShape op), .int .i64 c] → kindR op = .tuple #[.string (kName op), .string (kShape op), .int .i64 (cls op)] := fun c h h' => by rw [h]; exact h'
  unfold kindR kName kShape
  by_cases h1 : 0 ≤ op ∧ op < 12
  · rw [if_pos h1, if_pos h1, if_pos h1, cls1.2 (by omega)]
  by_cases h2 : 16 ≤ op ∧ op < 28
  · rw [if_neg h1, if_neg h1, if_neg h1, if_pos h2, if_pos h2, if_pos h2, cls1.2 (by omega)]
  by_cases h3 : 33 ≤ op ∧ op < 42
  · rw [if_neg h1, if_neg h1, if_neg h1, if_neg h2, if_neg h2, if_neg h2, if_pos h3, if_pos h3, if_pos h3, cls2.2 (by omega)]
  by_cases h4 : 49 ≤ op ∧ op < 58
  · rw [if_neg h1, if_neg h1, if_neg h1, if_neg h2, if_neg h2, if_neg h2, if_neg h3, if_neg h3, if_neg h3, if_pos h4, if_pos h4, if_pos h4, cls2.2 (by omega)]
  rw [if_neg h1, if_neg h1, if_neg h1, if_neg h2, if_neg h2, if_neg h2, if_neg h3, if_neg h3, if_neg h3, if_neg h4, if_neg h4, if_neg h4]
  by_cases k12 : op = 12
  · subst k12; rfl
  rw [if_neg k12, if_neg k12, if_neg k12]
  by_cases k32 : op = 32
  · subst k32; rfl
  rw [if_neg k32, if_neg k32, if_neg k32]
  by_cases k64 : op = 64
  · subst k64; rfl
  rw [if_neg k64, if_neg k64, if_neg k64]
  by_cases k65 : op = 65
  · subst k65; rfl
  rw [if_neg k65, if_neg k65, if_neg k65]
  by_cases k66 : op = 66
  · subst k66; rfl
  rw [if_neg k66, if_neg k66, if_neg k66]
  by_cases k67 : op = 67
  · subst k67; rfl
  rw [if_neg k67, if_neg k67, if_neg k67]
  by_cases k72 : op = 72
  · subst k72; rfl
  rw [if_neg k72, if_neg k72, if_neg k72]
  by_cases k73 : op = 73
  · subst k73; rfl
  rw [if_neg k73, if_neg k73, if_neg k73]
  rw [show cls op = 0 by unfold cls; repeat (first | rw [if_pos (by omega)] | rw [if_neg (by omega)])]
theorem kindp (op : Int) : Pure Tryd.prog Tab 41 [.int .i64 op] (.tuple #[.string (kName op), .string (kShape op), .int .i64 (cls op)]) := kindR_eq op ▸ kind_pure op

theorem fin74 {p : Int → Prop} (h : ∀ k : Fin 74, p k.val) {op : Int} (h0 : 0 ≤ op ∧ op ≤ 73) : p op := by
  obtain ⟨k, rfl⟩ := Int.eq_ofNat_of_zero_le h0.1
  exact h ⟨k, by omega⟩
theorem cmp_add {op : Int} (h : cls op = 1) : ((kName op).toList == (⟨#[97, 100, 100]⟩ : ByteArray).toList) = decide (plainOf op = 0) :=
  fin74 (p := fun op => cls op = 1 → ((kName op).toList == (⟨#[97, 100, 100]⟩ : ByteArray).toList) = decide (plainOf op = 0)) (by decide +kernel) (by have := cls1.1 h; omega) h
theorem cmp_sub {op : Int} (h : cls op = 1) : ((kName op).toList == (⟨#[115, 117, 98]⟩ : ByteArray).toList) = decide (plainOf op = 1) :=
  fin74 (p := fun op => cls op = 1 → ((kName op).toList == (⟨#[115, 117, 98]⟩ : ByteArray).toList) = decide (plainOf op = 1)) (by decide +kernel) (by have := cls1.1 h; omega) h
theorem cmp_mul {op : Int} (h : cls op = 1) : ((kName op).toList == (⟨#[109, 117, 108]⟩ : ByteArray).toList) = decide (plainOf op = 2) :=
  fin74 (p := fun op => cls op = 1 → ((kName op).toList == (⟨#[109, 117, 108]⟩ : ByteArray).toList) = decide (plainOf op = 2)) (by decide +kernel) (by have := cls1.1 h; omega) h
theorem cmp_div {op : Int} (h : cls op = 1) : ((kName op).toList == (⟨#[100, 105, 118]⟩ : ByteArray).toList) = decide (plainOf op = 3) :=
  fin74 (p := fun op => cls op = 1 → ((kName op).toList == (⟨#[100, 105, 118]⟩ : ByteArray).toList) = decide (plainOf op = 3)) (by decide +kernel) (by have := cls1.1 h; omega) h
theorem cmp_mod {op : Int} (h : cls op = 1) : ((kName op).toList == (⟨#[109, 111, 100]⟩ : ByteArray).toList) = decide (plainOf op = 4) :=
  fin74 (p := fun op => cls op = 1 → ((kName op).toList == (⟨#[109, 111, 100]⟩ : ByteArray).toList) = decide (plainOf op = 4)) (by decide +kernel) (by have := cls1.1 h; omega) h
theorem cmp_and {op : Int} (h : cls op = 1) : ((kName op).toList == (⟨#[97, 110, 100]⟩ : ByteArray).toList) = decide (plainOf op = 5) :=
  fin74 (p := fun op => cls op = 1 → ((kName op).toList == (⟨#[97, 110, 100]⟩ : ByteArray).toList) = decide (plainOf op = 5)) (by decide +kernel) (by have := cls1.1 h; omega) h
theorem cmp_or {op : Int} (h : cls op = 1) : ((kName op).toList == (⟨#[111, 114]⟩ : ByteArray).toList) = decide (plainOf op = 6) :=
  fin74 (p := fun op => cls op = 1 → ((kName op).toList == (⟨#[111, 114]⟩ : ByteArray).toList) = decide (plainOf op = 6)) (by decide +kernel) (by have := cls1.1 h; omega) h
theorem cmp_xor {op : Int} (h : cls op = 1) : ((kName op).toList == (⟨#[120, 111, 114]⟩ : ByteArray).toList) = decide (plainOf op = 7) :=
  fin74 (p := fun op => cls op = 1 → ((kName op).toList == (⟨#[120, 111, 114]⟩ : ByteArray).toList) = decide (plainOf op = 7)) (by decide +kernel) (by have := cls1.1 h; omega) h
theorem cmp_lsh {op : Int} (h : cls op = 1) : ((kName op).toList == (⟨#[108, 115, 104]⟩ : ByteArray).toList) = decide (plainOf op = 8) :=
  fin74 (p := fun op => cls op = 1 → ((kName op).toList == (⟨#[108, 115, 104]⟩ : ByteArray).toList) = decide (plainOf op = 8)) (by decide +kernel) (by have := cls1.1 h; omega) h
theorem cmp_rsh {op : Int} (h : cls op = 1) : ((kName op).toList == (⟨#[114, 115, 104]⟩ : ByteArray).toList) = decide (plainOf op = 9) :=
  fin74 (p := fun op => cls op = 1 → ((kName op).toList == (⟨#[114, 115, 104]⟩ : ByteArray).toList) = decide (plainOf op = 9)) (by decide +kernel) (by have := cls1.1 h; omega) h
theorem cmp_arsh {op : Int} (h : cls op = 1) : ((kName op).toList == (⟨#[97, 114, 115, 104]⟩ : ByteArray).toList) = decide (plainOf op = 10) :=
  fin74 (p := fun op => cls op = 1 → ((kName op).toList == (⟨#[97, 114, 115, 104]⟩ : ByteArray).toList) = decide (plainOf op = 10)) (by decide +kernel) (by have := cls1.1 h; omega) h
theorem cmp_mov {op : Int} (h : cls op = 1) : ((kName op).toList == (⟨#[109, 111, 118]⟩ : ByteArray).toList) = decide (plainOf op = 11) :=
  fin74 (p := fun op => cls op = 1 → ((kName op).toList == (⟨#[109, 111, 118]⟩ : ByteArray).toList) = decide (plainOf op = 11)) (by decide +kernel) (by have := cls1.1 h; omega) h
theorem cmp_neg {op : Int} (h : cls op = 1) : ((kName op).toList == (⟨#[110, 101, 103]⟩ : ByteArray).toList) = decide (plainOf op = 12) :=
  fin74 (p := fun op => cls op = 1 → ((kName op).toList == (⟨#[110, 101, 103]⟩ : ByteArray).toList) = decide (plainOf op = 12)) (by decide +kernel) (by have := cls1.1 h; omega) h
theorem cmp_jeq {op : Int} (h : cls op = 2) : ((kName op).toList == (⟨#[106, 101, 113]⟩ : ByteArray).toList) = decide (plainOf op = 33) :=
  fin74 (p := fun op => cls op = 2 → ((kName op).toList == (⟨#[106, 101, 113]⟩ : ByteArray).toList) = decide (plainOf op = 33)) (by decide +kernel) (by have := cls2.1 h; omega) h
theorem cmp_jne {op : Int} (h : cls op = 2) : ((kName op).toList == (⟨#[106, 110, 101]⟩ : ByteArray).toList) = decide (plainOf op = 34) :=
  fin74 (p := fun op => cls op = 2 → ((kName op).toList == (⟨#[106, 110, 101]⟩ : ByteArray).toList) = decide (plainOf op = 34)) (by decide +kernel) (by have := cls2.1 h; omega) h
theorem cmp_jgt {op : Int} (h : cls op = 2) : ((kName op).toList == (⟨#[106, 103, 116]⟩ : ByteArray).toList) = decide (plainOf op = 35) :=
  fin74 (p := fun op => cls op = 2 → ((kName op).toList == (⟨#[106, 103, 116]⟩ : ByteArray).toList) = decide (plainOf op = 35)) (by decide +kernel) (by have := cls2.1 h; omega) h
theorem cmp_jge {op : Int} (h : cls op = 2) : ((kName op).toList == (⟨#[106, 103, 101]⟩ : ByteArray).toList) = decide (plainOf op = 36) :=
  fin74 (p := fun op => cls op = 2 → ((kName op).toList == (⟨#[106, 103, 101]⟩ : ByteArray).toList) = decide (plainOf op = 36)) (by decide +kernel) (by have := cls2.1 h; omega) h
theorem cmp_jlt {op : Int} (h : cls op = 2) : ((kName op).toList == (⟨#[106, 108, 116]⟩ : ByteArray).toList) = decide (plainOf op = 37) :=
  fin74 (p := fun op => cls op = 2 → ((kName op).toList == (⟨#[106, 108, 116]⟩ : ByteArray).toList) = decide (plainOf op = 37)) (by decide +kernel) (by have := cls2.1 h; omega) h
theorem cmp_jle {op : Int} (h : cls op = 2) : ((kName op).toList == (⟨#[106, 108, 101]⟩ : ByteArray).toList) = decide (plainOf op = 38) :=
  fin74 (p := fun op => cls op = 2 → ((kName op).toList == (⟨#[106, 108, 101]⟩ : ByteArray).toList) = decide (plainOf op = 38)) (by decide +kernel) (by have := cls2.1 h; omega) h
theorem cmp_jset {op : Int} (h : cls op = 2) : ((kName op).toList == (⟨#[106, 115, 101, 116]⟩ : ByteArray).toList) = decide (plainOf op = 39) :=
  fin74 (p := fun op => cls op = 2 → ((kName op).toList == (⟨#[106, 115, 101, 116]⟩ : ByteArray).toList) = decide (plainOf op = 39)) (by decide +kernel) (by have := cls2.1 h; omega) h
theorem cmp_jsgt {op : Int} (h : cls op = 2) : ((kName op).toList == (⟨#[106, 115, 103, 116]⟩ : ByteArray).toList) = decide (plainOf op = 40) :=
  fin74 (p := fun op => cls op = 2 → ((kName op).toList == (⟨#[106, 115, 103, 116]⟩ : ByteArray).toList) = decide (plainOf op = 40)) (by decide +kernel) (by have := cls2.1 h; omega) h
theorem cmp_jslt {op : Int} (h : cls op = 2) : ((kName op).toList == (⟨#[106, 115, 108, 116]⟩ : ByteArray).toList) = decide (plainOf op = 41) :=
  fin74 (p := fun op => cls op = 2 → ((kName op).toList == (⟨#[106, 115, 108, 116]⟩ : ByteArray).toList) = decide (plainOf op = 41)) (by decide +kernel) (by have := cls2.1 h; omega) h

def shiftN (p : Int) (top : Bool) : Nat → Int → Int
  | 0, a => a
  | m + 1, a => if p = 8 then IntKind.u64.wrap (shiftN p top m a * 2) else if top = true then shiftN p top m a / 2 + 9223372036854775808 else shiftN p top m a / 2
theorem wrap_u64_bd (m : Int) : 0 ≤ IntKind.u64.wrap m ∧ IntKind.u64.wrap m ≤ 18446744073709551615 := by
  have : IntKind.u64.wrap m = m % 18446744073709551616 := by simp [IntKind.wrap, IntKind.signed, IntKind.bits]
  omega
theorem shiftN_bd (p : Int) (top : Bool) {a : Int} (ha : 0 ≤ a ∧ a ≤ 18446744073709551615) : ∀ m : Nat, 0 ≤ shiftN p top m a ∧ shiftN p top m a ≤ 18446744073709551615
  | 0 => ha
  | m + 1 => by
    have ih := shiftN_bd p top ha m
    simp only [shiftN]
    split
    · exact wrap_u64_bd _
    · split <;> omega
def refDoS (p a b : Int) : Int :=
  if p = 0 then IntKind.u64.wrap (a + b) else if p = 1 then IntKind.u64.wrap (a - b) else if p = 2 then IntKind.u64.wrap (a * b)
  else if p = 3 then (if b = 0 then 0 else a / b) else if p = 4 then (if b = 0 then a else IntKind.u64.wrap (a - IntKind.u64.wrap (a / b * b)))
  else if p = 5 then bitsN 0 64 a b else if p = 6 then bitsN 1 64 a b else if p = 7 then bitsN 2 64 a b
  else if p = 11 then b else if p = 12 then IntKind.u64.wrap (0 - a) else shiftN p (decide (p = 10) && decide (9223372036854775808 ≤ a)) (b % 64).toNat a
def refDoR (op a b : Int) : Value := if cls op = 1 then .tuple #[U (refDoS (plainOf op) a b), .int .i64 0] else .tuple #[U 0, .int .i64 11]
def refJumpS (p a b : Int) : Bool :=
  if p = 33 then decide (a = b) else if p = 34 then !decide (a = b) else if p = 35 then decide (b < a) else if p = 36 then !decide (a < b) else if p = 37 then decide (a < b)
  else if p = 38 then !decide (b < a) else if p = 39 then decide (0 < bitsN 0 64 a b) else if p = 40 then lessS b a else if p = 41 then lessS a b else true
def refJumpR (op a b : Int) : Value := if cls op = 2 then .tuple #[.bool (refJumpS (plainOf op) a b), .int .i64 0] else .tuple #[.bool false, .int .i64 11]
set_option maxHeartbeats 2000000 in
theorem refDo_pure (op a b : Int) (ha0 : 0 ≤ a) (ha1 : a ≤ 18446744073709551615) (hb0 : 0 ≤ b) (hb1 : b ≤ 18446744073709551615) : Pure Tryd.prog Tab 15 [.int .i64 op, U a, U b] (refDoR op a b) := by
  intro w0 H hT
  unfold U
  refine L_enter Tryd.func15 rfl Tryd.ntmps15 rfl rfl ?_
  refine W_sr ?_
  refine W_assign rfl rfl ?_
  refine W_assign rfl rfl ?_
  refine W_nil ?_
  refine W_sr ?_
  refine W_move rfl rfl ?_
  refine W_callp (.cons rfl .nil) Tryd.call41 rfl hT (kindp _) ?_
  refine W_move rfl rfl ?_
  refine W_extract rfl rfl rfl ?_
  refine W_extract rfl rfl rfl ?_
  refine W_extract rfl rfl rfl ?_
  refine W_assign rfl rfl ?_
  refine W_assign rfl rfl ?_
  refine W_assign rfl rfl ?_
  refine W_nil ?_
  refine W_seq ?_
  refine W_sr ?_
  refine W_move rfl rfl ?_
  refine W_bin rfl rfl b_neq rfl ?_
  refine W_nil ?_
  refine W_condS rfl (fun c0 => ?_) (fun c0 => ?_)
  · simp only [cond_true, cond_false, Bool.and_eq_true, Bool.or_eq_true, Bool.and_eq_false_iff, Bool.or_eq_false_iff, decide_eq_true_eq, decide_eq_false_iff_not, Bool.not_eq_true', Bool.not_eq_false', ne_eq, Decidable.not_not] at c0
    refine W_sr ?_
    refine W_assign rfl rfl ?_
    refine W_assign rfl rfl ?_
    refine W_nil ?_
    refine W_ret2m Tryd.results15 rfl rfl (.nil _) (.refl _) ?_
    exact ⟨by unfold refDoR U; rw [if_neg c0], rfl⟩
  · simp only [cond_true, cond_false, Bool.and_eq_true, Bool.or_eq_true, Bool.and_eq_false_iff, Bool.or_eq_false_iff, decide_eq_true_eq, decide_eq_false_iff_not, Bool.not_eq_true', Bool.not_eq_false', ne_eq, Decidable.not_not] at c0
    refine W_skip ?_
    refine W_sr ?_
    refine W_move rfl rfl ?_
    refine W_bin rfl rfl (b_rem (by decide) (Int.tmod_eq_emod_of_nonneg hb0)) rfl ?_
    refine W_assign rfl rfl ?_
    refine W_nil ?_
    refine W_seq ?_
    refine W_sr ?_
    refine W_move rfl rfl ?_
    refine W_nil ?_
    refine W_block ?_
    refine W_sr ?_
    refine W_seq_s rfl rfl rfl ?_
    refine W_assign rfl rfl ?_
    refine W_nil ?_
    refine W_condPS (p := plainOf op = 0) rfl (by rw [cmp_add c0]; simp) (fun c1 => ?_) (fun c1 => ?_)
    · skip
      refine W_sr ?_
      refine W_move rfl rfl ?_
      refine W_move rfl rfl ?_
      refine W_bin rfl rfl (b_add rfl) rfl ?_
      refine W_assign rfl rfl ?_
      refine W_assign rfl rfl ?_
      refine W_nil ?_
      refine W_ret2m Tryd.results15 rfl rfl (.nil _) (.refl _) ?_
      exact ⟨by unfold refDoR refDoS U; rw [if_pos c0, if_pos c1], rfl⟩
    · skip
      refine W_sr ?_
      refine W_seq_s rfl rfl rfl ?_
      refine W_assign rfl rfl ?_
      refine W_nil ?_
      refine W_condPS (p := plainOf op = 1) rfl (by rw [cmp_sub c0]; simp) (fun c2 => ?_) (fun c2 => ?_)
      · skip
        refine W_sr ?_
        refine W_move rfl rfl ?_
        refine W_move rfl rfl ?_
        refine W_bin rfl rfl (b_sub rfl) rfl ?_
        refine W_assign rfl rfl ?_
        refine W_assign rfl rfl ?_
        refine W_nil ?_
        refine W_ret2m Tryd.results15 rfl rfl (.nil _) (.refl _) ?_
        exact ⟨by unfold refDoR refDoS U; rw [if_pos c0, if_neg c1, if_pos c2], rfl⟩
      · skip
        refine W_sr ?_
        refine W_seq_s rfl rfl rfl ?_
        refine W_assign rfl rfl ?_
        refine W_nil ?_
        refine W_condPS (p := plainOf op = 2) rfl (by rw [cmp_mul c0]; simp) (fun c3 => ?_) (fun c3 => ?_)
        · skip
          refine W_sr ?_
          refine W_move rfl rfl ?_
          refine W_move rfl rfl ?_
          refine W_bin rfl rfl (b_mul rfl) rfl ?_
          refine W_assign rfl rfl ?_
          refine W_assign rfl rfl ?_
          refine W_nil ?_
          refine W_ret2m Tryd.results15 rfl rfl (.nil _) (.refl _) ?_
          exact ⟨by unfold refDoR refDoS U; rw [if_pos c0, if_neg c1, if_neg c2, if_pos c3], rfl⟩
        · skip
          refine W_sr ?_
          refine W_seq_s rfl rfl rfl ?_
          refine W_assign rfl rfl ?_
          refine W_nil ?_
          refine W_condPS (p := plainOf op = 3) rfl (by rw [cmp_div c0]; simp) (fun c4 => ?_) (fun c4 => ?_)
          · skip
            refine W_seq ?_
            refine W_sr ?_
            refine W_move rfl rfl ?_
            refine W_bin rfl rfl b_eql rfl ?_
            refine W_nil ?_
            refine W_condPS (p := b = 0) rfl (by simp) (fun c5 => ?_) (fun c5 => ?_)
            · skip
              refine W_sr ?_
              refine W_assign rfl rfl ?_
              refine W_assign rfl rfl ?_
              refine W_nil ?_
              refine W_ret2m Tryd.results15 rfl rfl (.nil _) (.refl _) ?_
              exact ⟨by unfold refDoR refDoS U; rw [if_pos c0, if_neg c1, if_neg c2, if_neg c3, if_pos c4, if_pos c5], rfl⟩
            · skip
              refine W_skip ?_
              refine W_sr ?_
              refine W_move rfl rfl ?_
              refine W_move rfl rfl ?_
              refine W_bin rfl rfl (b_quo c5 (IntWalk.u64_quo _ _ ⟨by omega, by omega, by omega⟩)) rfl ?_
              refine W_assign rfl rfl ?_
              refine W_assign rfl rfl ?_
              refine W_nil ?_
              refine W_ret2m Tryd.results15 rfl rfl (.nil _) (.refl _) ?_
              exact ⟨by unfold refDoR refDoS U; rw [if_pos c0, if_neg c1, if_neg c2, if_neg c3, if_pos c4, if_neg c5], rfl⟩
          · skip
            refine W_sr ?_
            refine W_seq_s rfl rfl rfl ?_
            refine W_assign rfl rfl ?_
            refine W_nil ?_
            refine W_condPS (p := plainOf op = 4) rfl (by rw [cmp_mod c0]; simp) (fun c5 => ?_) (fun c5 => ?_)
            · skip
              refine W_seq ?_
              refine W_sr ?_
              refine W_move rfl rfl ?_
              refine W_bin rfl rfl b_eql rfl ?_
              refine W_nil ?_
              refine W_condPS (p := b = 0) rfl (by simp) (fun c6 => ?_) (fun c6 => ?_)
              · skip
                refine W_sr ?_
                refine W_move rfl rfl ?_
                refine W_assign rfl rfl ?_
                refine W_assign rfl rfl ?_
                refine W_nil ?_
                refine W_ret2m Tryd.results15 rfl rfl (.nil _) (.refl _) ?_
                exact ⟨by unfold refDoR refDoS U; rw [if_pos c0, if_neg c1, if_neg c2, if_neg c3, if_neg c4, if_pos c5, if_pos c6], rfl⟩
              · skip
                refine W_skip ?_
                refine W_sr ?_
                refine W_move rfl rfl ?_
                refine W_move rfl rfl ?_
                refine W_move rfl rfl ?_
                refine W_bin rfl rfl (b_quo c6 (IntWalk.u64_quo _ _ ⟨by omega, by omega, by omega⟩)) rfl ?_
                refine W_move rfl rfl ?_
                refine W_bin rfl rfl (b_mul rfl) rfl ?_
                refine W_bin rfl rfl (b_sub rfl) rfl ?_
                refine W_assign rfl rfl ?_
                refine W_assign rfl rfl ?_
                refine W_nil ?_
                refine W_ret2m Tryd.results15 rfl rfl (.nil _) (.refl _) ?_
                exact ⟨by unfold refDoR refDoS U; rw [if_pos c0, if_neg c1, if_neg c2, if_neg c3, if_neg c4, if_pos c5, if_neg c6], rfl⟩
            · skip
              refine W_sr ?_
              refine W_seq_s rfl rfl rfl ?_
              refine W_assign rfl rfl ?_
              refine W_nil ?_
              refine W_condPS (p := plainOf op = 5) rfl (by rw [cmp_and c0]; simp) (fun c6 => ?_) (fun c6 => ?_)
              · skip
                refine W_sr ?_
                refine W_move rfl rfl ?_
                refine W_move rfl rfl ?_
                refine W_callp (.cons rfl (.cons rfl (.cons rfl .nil))) Tryd.call42 rfl hT (bits_pure _ _ _ ha0 ha1 hb0 hb1) ?_
                refine W_assign rfl rfl ?_
                refine W_assign rfl rfl ?_
                refine W_nil ?_
                refine W_ret2m Tryd.results15 rfl rfl (.nil _) (.refl _) ?_
                exact ⟨by unfold refDoR refDoS U; rw [if_pos c0, if_neg c1, if_neg c2, if_neg c3, if_neg c4, if_neg c5, if_pos c6], rfl⟩
              · skip
                refine W_sr ?_
                refine W_seq_s rfl rfl rfl ?_
                refine W_assign rfl rfl ?_
                refine W_nil ?_
                refine W_condPS (p := plainOf op = 6) rfl (by rw [cmp_or c0]; simp) (fun c7 => ?_) (fun c7 => ?_)
                · skip
                  refine W_sr ?_
                  refine W_move rfl rfl ?_
                  refine W_move rfl rfl ?_
                  refine W_callp (.cons rfl (.cons rfl (.cons rfl .nil))) Tryd.call42 rfl hT (bits_pure _ _ _ ha0 ha1 hb0 hb1) ?_
                  refine W_assign rfl rfl ?_
                  refine W_assign rfl rfl ?_
                  refine W_nil ?_
                  refine W_ret2m Tryd.results15 rfl rfl (.nil _) (.refl _) ?_
                  exact ⟨by unfold refDoR refDoS U; rw [if_pos c0, if_neg c1, if_neg c2, if_neg c3, if_neg c4, if_neg c5, if_neg c6, if_pos c7], rfl⟩
                · skip
                  refine W_sr ?_
                  refine W_seq_s rfl rfl rfl ?_
                  refine W_assign rfl rfl ?_
                  refine W_nil ?_
                  refine W_condPS (p := plainOf op = 7) rfl (by rw [cmp_xor c0]; simp) (fun c8 => ?_) (fun c8 => ?_)
                  · skip
                    refine W_sr ?_
                    refine W_move rfl rfl ?_
                    refine W_move rfl rfl ?_
                    refine W_callp (.cons rfl (.cons rfl (.cons rfl .nil))) Tryd.call42 rfl hT (bits_pure _ _ _ ha0 ha1 hb0 hb1) ?_
                    refine W_assign rfl rfl ?_
                    refine W_assign rfl rfl ?_
                    refine W_nil ?_
                    refine W_ret2m Tryd.results15 rfl rfl (.nil _) (.refl _) ?_
                    exact ⟨by unfold refDoR refDoS U; rw [if_pos c0, if_neg c1, if_neg c2, if_neg c3, if_neg c4, if_neg c5, if_neg c6, if_neg c7, if_pos c8], rfl⟩
                  · skip
                    refine W_sr ?_
                    refine W_seq_s rfl rfl rfl ?_
                    refine W_assign rfl rfl ?_
                    refine W_nil ?_
                    refine W_condPS (p := plainOf op = 11) rfl (by rw [cmp_mov c0]; simp) (fun c9 => ?_) (fun c9 => ?_)
                    · skip
                      refine W_sr ?_
                      refine W_move rfl rfl ?_
                      refine W_assign rfl rfl ?_
                      refine W_assign rfl rfl ?_
                      refine W_nil ?_
                      refine W_ret2m Tryd.results15 rfl rfl (.nil _) (.refl _) ?_
                      exact ⟨by unfold refDoR refDoS U; rw [if_pos c0, if_neg c1, if_neg c2, if_neg c3, if_neg c4, if_neg c5, if_neg c6, if_neg c7, if_neg c8, if_pos c9], rfl⟩
                    · skip
                      refine W_sr ?_
                      refine W_seq_s rfl rfl rfl ?_
                      refine W_assign rfl rfl ?_
                      refine W_nil ?_
                      refine W_condPS (p := plainOf op = 12) rfl (by rw [cmp_neg c0]; simp) (fun c10 => ?_) (fun c10 => ?_)
                      · skip
                        refine W_sr ?_
                        refine W_move rfl rfl ?_
                        refine W_bin rfl rfl (b_sub rfl) rfl ?_
                        refine W_assign rfl rfl ?_
                        refine W_assign rfl rfl ?_
                        refine W_nil ?_
                        refine W_ret2m Tryd.results15 rfl rfl (.nil _) (.refl _) ?_
                        exact ⟨by unfold refDoR refDoS U; rw [if_pos c0, if_neg c1, if_neg c2, if_neg c3, if_neg c4, if_neg c5, if_neg c6, if_neg c7, if_neg c8, if_neg c9, if_pos c10], rfl⟩
                      · skip
                        refine W_skip ?_
                        refine W_blk ?_
                        refine W_sr ?_
                        refine W_move rfl rfl ?_
                        refine W_seq_s rfl rfl rfl ?_
                        refine W_move rfl rfl ?_
                        apply W_and
                        iterate 4 exact rfl
                        case h1 =>
                          intro hg2
                          refine W_gyes rfl rfl ?_
                          refine W_move rfl rfl ?_
                          refine W_gyes rfl rfl ?_
                          refine W_callp (.cons rfl .nil) Tryd.call43 rfl hT (high_pure _) ?_
                          exact W_met rfl (by repeat (first | exact .refl | refine .cons rfl ?_))
                        refine W_assign rfl rfl ?_
                        refine W_nil ?_
                        refine W_seq ?_
                        refine W_sr ?_
                        refine W_assign rfl rfl ?_
                        refine W_nil ?_
                        refine W_block ?_
                        have hp : plainOf op = 8 ∨ plainOf op = 9 ∨ plainOf op = 10 := by
                          have h1 := cls1.1 c0
                          have h2 := plain1 c0
                          split at h2 <;> omega
                        obtain ⟨top, htop⟩ : ∃ top, top = (decide (plainOf op = 10) && decide (9223372036854775808 ≤ a)) := ⟨_, rfl⟩
                        refine W_loop (X := Nat) (fun i => [(1, U (shiftN (plainOf op) top i a)), (8, .string (kName op)), (11, U (b % 64)), (12, .bool top), (13, U (i : Int))]) (fun _ => H)
                          (fun i => (i : Int) ≤ b % 64) (fun i => 64 - i) 0 (by omega) (sub_cons rfl (sub_cons rfl (sub_cons rfl (sub_cons (by rw [htop, ← cmp_arsh c0]; rfl) (sub_cons rfl (sub_nil _)))))) rfl ?_
                        intro i hi
                        have hbd := shiftN_bd (plainOf op) top ⟨ha0, ha1⟩ i
                        unfold U
                        refine W_seq ?_
                        refine W_sr ?_
                        refine W_move rfl rfl ?_
                        refine W_move rfl rfl ?_
                        refine W_bin rfl rfl b_lss rfl ?_
                        refine W_nil ?_
                        refine W_condS rfl (fun c11 => ?_) (fun c11 => ?_)
                        · simp only [cond_true, cond_false, Bool.and_eq_true, Bool.or_eq_true, Bool.and_eq_false_iff, Bool.or_eq_false_iff, decide_eq_true_eq, decide_eq_false_iff_not, Bool.not_eq_true', Bool.not_eq_false', ne_eq, Decidable.not_not] at c11
                          refine W_skip ?_
                          refine W_seq ?_
                          refine W_block ?_
                          refine W_sr ?_
                          refine W_move rfl rfl ?_
                          refine W_seq_s rfl rfl rfl ?_
                          refine W_nil ?_
                          refine W_condPS (p := plainOf op = 8) rfl (by rw [cmp_lsh c0]; simp) (fun c12 => ?_) (fun c12 => ?_)
                          · skip
                            refine W_region ?_
                            refine W_move rfl rfl ?_
                            refine W_bin rfl rfl (b_mul rfl) rfl ?_
                            refine W_assign rfl rfl ?_
                            refine W_nil ?_
                            refine W_blk ?_
                            refine W_region ?_
                            refine W_move rfl rfl ?_
                            refine W_bin rfl rfl (b_add (u64w (by omega))) rfl ?_
                            refine W_assign rfl rfl ?_
                            refine W_nil ?_
                            exact W_goal fun _ w' ha' hd' hs' => ⟨i + 1, by show ((i + 1 : Nat) : Int) ≤ _; omega, by show 64 - (i + 1) < 64 - i; omega, ha'.weaken (look_of_sub (sub_cons (by rw [show shiftN (plainOf op) top (i + 1) a = IntKind.u64.wrap (shiftN (plainOf op) top i a * 2) from if_pos c12]; rfl) (sub_cons rfl (sub_cons rfl (sub_cons rfl (sub_cons rfl (sub_nil _))))))), hd', hs'⟩
                          · skip
                            refine W_sr ?_
                            refine W_move rfl rfl ?_
                            refine W_bin rfl rfl (b_quo (by decide) (u64q hbd)) rfl ?_
                            refine W_assign rfl rfl ?_
                            refine W_nil ?_
                            refine W_sr ?_
                            refine W_move rfl rfl ?_
                            refine W_nil ?_
                            refine W_condS rfl (fun c13 => ?_) (fun c13 => ?_)
                            · skip
                              refine W_region ?_
                              refine W_move rfl rfl ?_
                              refine W_bin rfl rfl (b_add (u64w (by omega))) rfl ?_
                              refine W_assign rfl rfl ?_
                              refine W_nil ?_
                              refine W_blk ?_
                              refine W_region ?_
                              refine W_move rfl rfl ?_
                              refine W_bin rfl rfl (b_add (u64w (by omega))) rfl ?_
                              refine W_assign rfl rfl ?_
                              refine W_nil ?_
                              exact W_goal fun _ w' ha' hd' hs' => ⟨i + 1, by show ((i + 1 : Nat) : Int) ≤ _; omega, by show 64 - (i + 1) < 64 - i; omega, ha'.weaken (look_of_sub (sub_cons (by rw [show shiftN (plainOf op) top (i + 1) a = shiftN (plainOf op) top i a / 2 + 9223372036854775808 from (if_neg c12).trans (if_pos c13)]; rfl) (sub_cons rfl (sub_cons rfl (sub_cons rfl (sub_cons rfl (sub_nil _))))))), hd', hs'⟩
                            · skip
                              refine W_skip ?_
                              refine W_blk ?_
                              refine W_region ?_
                              refine W_move rfl rfl ?_
                              refine W_bin rfl rfl (b_add (u64w (by omega))) rfl ?_
                              refine W_assign rfl rfl ?_
                              refine W_nil ?_
                              exact W_goal fun _ w' ha' hd' hs' => ⟨i + 1, by show ((i + 1 : Nat) : Int) ≤ _; omega, by show 64 - (i + 1) < 64 - i; omega, ha'.weaken (look_of_sub (sub_cons (by rw [show shiftN (plainOf op) top (i + 1) a = shiftN (plainOf op) top i a / 2 from (if_neg c12).trans (if_neg (by rw [c13]; simp))]; rfl) (sub_cons rfl (sub_cons rfl (sub_cons rfl (sub_cons rfl (sub_nil _))))))), hd', hs'⟩
                        · simp only [cond_true, cond_false, Bool.and_eq_true, Bool.or_eq_true, Bool.and_eq_false_iff, Bool.or_eq_false_iff, decide_eq_true_eq, decide_eq_false_iff_not, Bool.not_eq_true', Bool.not_eq_false', ne_eq, Decidable.not_not] at c11
                          refine W_exit rfl ?_
                          refine W_sr ?_
                          refine W_move rfl rfl ?_
                          refine W_assign rfl rfl ?_
                          refine W_assign rfl rfl ?_
                          refine W_nil ?_
                          refine W_ret2m Tryd.results15 rfl rfl (.nil _) (.refl _) ?_
                          obtain rfl : i = (b % 64).toNat := by omega
                          exact ⟨by unfold refDoR refDoS U; rw [if_pos c0, if_neg c1, if_neg c2, if_neg c3, if_neg c4, if_neg c5, if_neg c6, if_neg c7, if_neg c8, if_neg c9, if_neg c10, ← htop], rfl⟩
set_option maxHeartbeats 2000000 in
theorem refJumps_pure (op a b : Int) (ha0 : 0 ≤ a) (ha1 : a ≤ 18446744073709551615) (hb0 : 0 ≤ b) (hb1 : b ≤ 18446744073709551615) : Pure Tryd.prog Tab 18 [.int .i64 op, U a, U b] (refJumpR op a b) := by
  intro w0 H hT
  unfold U
  refine L_enter Tryd.func18 rfl Tryd.ntmps18 rfl rfl ?_
  refine W_sr ?_
  refine W_assign rfl rfl ?_
  refine W_assign rfl rfl ?_
  refine W_nil ?_
  refine W_sr ?_
  refine W_move rfl rfl ?_
  refine W_callp (.cons rfl .nil) Tryd.call41 rfl hT (kindp _) ?_
  refine W_move rfl rfl ?_
  refine W_extract rfl rfl rfl ?_
  refine W_extract rfl rfl rfl ?_
  refine W_extract rfl rfl rfl ?_
  refine W_assign rfl rfl ?_
  refine W_assign rfl rfl ?_
  refine W_assign rfl rfl ?_
  refine W_nil ?_
  refine W_seq ?_
  refine W_sr ?_
  refine W_move rfl rfl ?_
  refine W_bin rfl rfl b_neq rfl ?_
  refine W_nil ?_
  refine W_condS rfl (fun c0 => ?_) (fun c0 => ?_)
  · simp only [cond_true, cond_false, Bool.and_eq_true, Bool.or_eq_true, Bool.and_eq_false_iff, Bool.or_eq_false_iff, decide_eq_true_eq, decide_eq_false_iff_not, Bool.not_eq_true', Bool.not_eq_false', ne_eq, Decidable.not_not] at c0
    refine W_sr ?_
    refine W_assign rfl rfl ?_
    refine W_assign rfl rfl ?_
    refine W_nil ?_
    refine W_ret2m Tryd.results18 rfl rfl (.nil _) (.refl _) ?_
    exact ⟨by unfold refJumpR; rw [if_neg c0], rfl⟩
  · simp only [cond_true, cond_false, Bool.and_eq_true, Bool.or_eq_true, Bool.and_eq_false_iff, Bool.or_eq_false_iff, decide_eq_true_eq, decide_eq_false_iff_not, Bool.not_eq_true', Bool.not_eq_false', ne_eq, Decidable.not_not] at c0
    refine W_skip ?_
    refine W_seq ?_
    refine W_sr ?_
    refine W_move rfl rfl ?_
    refine W_nil ?_
    refine W_block ?_
    refine W_sr ?_
    refine W_seq_s rfl rfl rfl ?_
    refine W_assign rfl rfl ?_
    refine W_nil ?_
    refine W_condPS (p := plainOf op = 33) rfl (by rw [cmp_jeq c0]; simp) (fun c1 => ?_) (fun c1 => ?_)
    · skip
      refine W_sr ?_
      refine W_move rfl rfl ?_
      refine W_move rfl rfl ?_
      refine W_bin rfl rfl b_eql rfl ?_
      refine W_assign rfl rfl ?_
      refine W_assign rfl rfl ?_
      refine W_nil ?_
      refine W_ret2m Tryd.results18 rfl rfl (.nil _) (.refl _) ?_
      exact ⟨by unfold refJumpR refJumpS; rw [if_pos c0, if_pos c1], rfl⟩
    · skip
      refine W_sr ?_
      refine W_seq_s rfl rfl rfl ?_
      refine W_assign rfl rfl ?_
      refine W_nil ?_
      refine W_condPS (p := plainOf op = 34) rfl (by rw [cmp_jne c0]; simp) (fun c2 => ?_) (fun c2 => ?_)
      · skip
        refine W_sr ?_
        refine W_move rfl rfl ?_
        refine W_move rfl rfl ?_
        refine W_bin rfl rfl b_eql rfl ?_
        refine W_not rfl rfl ?_
        refine W_assign rfl rfl ?_
        refine W_assign rfl rfl ?_
        refine W_nil ?_
        refine W_ret2m Tryd.results18 rfl rfl (.nil _) (.refl _) ?_
        exact ⟨by unfold refJumpR refJumpS; rw [if_pos c0, if_neg c1, if_pos c2], rfl⟩
      · skip
        refine W_sr ?_
        refine W_seq_s rfl rfl rfl ?_
        refine W_assign rfl rfl ?_
        refine W_nil ?_
        refine W_condPS (p := plainOf op = 35) rfl (by rw [cmp_jgt c0]; simp) (fun c3 => ?_) (fun c3 => ?_)
        · skip
          refine W_sr ?_
          refine W_move rfl rfl ?_
          refine W_move rfl rfl ?_
          refine W_bin rfl rfl b_lss rfl ?_
          refine W_assign rfl rfl ?_
          refine W_assign rfl rfl ?_
          refine W_nil ?_
          refine W_ret2m Tryd.results18 rfl rfl (.nil _) (.refl _) ?_
          exact ⟨by unfold refJumpR refJumpS; rw [if_pos c0, if_neg c1, if_neg c2, if_pos c3], rfl⟩
        · skip
          refine W_sr ?_
          refine W_seq_s rfl rfl rfl ?_
          refine W_assign rfl rfl ?_
          refine W_nil ?_
          refine W_condPS (p := plainOf op = 36) rfl (by rw [cmp_jge c0]; simp) (fun c4 => ?_) (fun c4 => ?_)
          · skip
            refine W_sr ?_
            refine W_move rfl rfl ?_
            refine W_move rfl rfl ?_
            refine W_bin rfl rfl b_lss rfl ?_
            refine W_not rfl rfl ?_
            refine W_assign rfl rfl ?_
            refine W_assign rfl rfl ?_
            refine W_nil ?_
            refine W_ret2m Tryd.results18 rfl rfl (.nil _) (.refl _) ?_
            exact ⟨by unfold refJumpR refJumpS; rw [if_pos c0, if_neg c1, if_neg c2, if_neg c3, if_pos c4], rfl⟩
          · skip
            refine W_sr ?_
            refine W_seq_s rfl rfl rfl ?_
            refine W_assign rfl rfl ?_
            refine W_nil ?_
            refine W_condPS (p := plainOf op = 37) rfl (by rw [cmp_jlt c0]; simp) (fun c5 => ?_) (fun c5 => ?_)
            · skip
              refine W_sr ?_
              refine W_move rfl rfl ?_
              refine W_move rfl rfl ?_
              refine W_bin rfl rfl b_lss rfl ?_
              refine W_assign rfl rfl ?_
              refine W_assign rfl rfl ?_
              refine W_nil ?_
              refine W_ret2m Tryd.results18 rfl rfl (.nil _) (.refl _) ?_
              exact ⟨by unfold refJumpR refJumpS; rw [if_pos c0, if_neg c1, if_neg c2, if_neg c3, if_neg c4, if_pos c5], rfl⟩
            · skip
              refine W_sr ?_
              refine W_seq_s rfl rfl rfl ?_
              refine W_assign rfl rfl ?_
              refine W_nil ?_
              refine W_condPS (p := plainOf op = 38) rfl (by rw [cmp_jle c0]; simp) (fun c6 => ?_) (fun c6 => ?_)
              · skip
                refine W_sr ?_
                refine W_move rfl rfl ?_
                refine W_move rfl rfl ?_
                refine W_bin rfl rfl b_lss rfl ?_
                refine W_not rfl rfl ?_
                refine W_assign rfl rfl ?_
                refine W_assign rfl rfl ?_
                refine W_nil ?_
                refine W_ret2m Tryd.results18 rfl rfl (.nil _) (.refl _) ?_
                exact ⟨by unfold refJumpR refJumpS; rw [if_pos c0, if_neg c1, if_neg c2, if_neg c3, if_neg c4, if_neg c5, if_pos c6], rfl⟩
              · skip
                refine W_sr ?_
                refine W_seq_s rfl rfl rfl ?_
                refine W_assign rfl rfl ?_
                refine W_nil ?_
                refine W_condPS (p := plainOf op = 39) rfl (by rw [cmp_jset c0]; simp) (fun c7 => ?_) (fun c7 => ?_)
                · skip
                  refine W_sr ?_
                  refine W_move rfl rfl ?_
                  refine W_move rfl rfl ?_
                  refine W_callp (.cons rfl (.cons rfl (.cons rfl .nil))) Tryd.call42 rfl hT (bits_pure _ _ _ ha0 ha1 hb0 hb1) ?_
                  refine W_bin rfl rfl b_gtr rfl ?_
                  refine W_assign rfl rfl ?_
                  refine W_assign rfl rfl ?_
                  refine W_nil ?_
                  refine W_ret2m Tryd.results18 rfl rfl (.nil _) (.refl _) ?_
                  exact ⟨by unfold refJumpR refJumpS; rw [if_pos c0, if_neg c1, if_neg c2, if_neg c3, if_neg c4, if_neg c5, if_neg c6, if_pos c7], rfl⟩
                · skip
                  refine W_sr ?_
                  refine W_seq_s rfl rfl rfl ?_
                  refine W_assign rfl rfl ?_
                  refine W_nil ?_
                  refine W_condPS (p := plainOf op = 40) rfl (by rw [cmp_jsgt c0]; simp) (fun c8 => ?_) (fun c8 => ?_)
                  · skip
                    refine W_sr ?_
                    refine W_move rfl rfl ?_
                    refine W_move rfl rfl ?_
                    refine W_callp (.cons rfl (.cons rfl .nil)) Tryd.call44 rfl hT (less_pure _ _) ?_
                    refine W_assign rfl rfl ?_
                    refine W_assign rfl rfl ?_
                    refine W_nil ?_
                    refine W_ret2m Tryd.results18 rfl rfl (.nil _) (.refl _) ?_
                    exact ⟨by unfold refJumpR refJumpS; rw [if_pos c0, if_neg c1, if_neg c2, if_neg c3, if_neg c4, if_neg c5, if_neg c6, if_neg c7, if_pos c8], rfl⟩
                  · skip
                    refine W_sr ?_
                    refine W_seq_s rfl rfl rfl ?_
                    refine W_assign rfl rfl ?_
                    refine W_nil ?_
                    refine W_condPS (p := plainOf op = 41) rfl (by rw [cmp_jslt c0]; simp) (fun c9 => ?_) (fun c9 => ?_)
                    · skip
                      refine W_sr ?_
                      refine W_move rfl rfl ?_
                      refine W_move rfl rfl ?_
                      refine W_callp (.cons rfl (.cons rfl .nil)) Tryd.call44 rfl hT (less_pure _ _) ?_
                      refine W_assign rfl rfl ?_
                      refine W_assign rfl rfl ?_
                      refine W_nil ?_
                      refine W_ret2m Tryd.results18 rfl rfl (.nil _) (.refl _) ?_
                      exact ⟨by unfold refJumpR refJumpS; rw [if_pos c0, if_neg c1, if_neg c2, if_neg c3, if_neg c4, if_neg c5, if_neg c6, if_neg c7, if_neg c8, if_pos c9], rfl⟩
                    · skip
                      refine W_skip ?_
                      refine W_blk ?_
                      refine W_sr ?_
                      refine W_assign rfl rfl ?_
                      refine W_assign rfl rfl ?_
                      refine W_nil ?_
                      refine W_ret2m Tryd.results18 rfl rfl (.nil _) (.refl _) ?_
                      exact ⟨by unfold refJumpR refJumpS; rw [if_pos c0, if_neg c1, if_neg c2, if_neg c3, if_neg c4, if_neg c5, if_neg c6, if_neg c7, if_neg c8, if_neg c9], rfl⟩
end Go.Proofs.YtpfoecmianohjaaDoor
