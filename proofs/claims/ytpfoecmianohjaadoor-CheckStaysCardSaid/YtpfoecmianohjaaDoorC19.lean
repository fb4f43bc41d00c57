/-
  Own work: contracts of functions that the statement reaches, and plain facts on what they compute; each theorem says its conditions.
-/
import Derived.Test.YtpfoecmianohjaaDoorC17
set_option linter.all false
set_option linter.unusedSimpArgs false
set_option linter.unusedVariables false
namespace Go.Proofs.YtpfoecmianohjaaDoor
open Go Go.Sl
attribute [local irreducible] W

/-! ## A right program is never left -/
def onesV (x : Int) : Int :=
  let x1 := IntKind.u64.wrap (bitsOf .and .u64 (x.fdiv (2 ^ (min (1 : Int).toNat IntKind.u64.bits))) 6148914691236517205 + bitsOf .and .u64 x 6148914691236517205)
  let x2 := IntKind.u64.wrap (bitsOf .and .u64 (x1.fdiv (2 ^ (min (2 : Int).toNat IntKind.u64.bits))) 3689348814741910323 + bitsOf .and .u64 x1 3689348814741910323)
  let x3 := bitsOf .and .u64 (IntKind.u64.wrap (x2.fdiv (2 ^ (min (4 : Int).toNat IntKind.u64.bits)) + x2)) 1085102592571150095
  let x4 := IntKind.u64.wrap (x3 + x3.fdiv (2 ^ (min (8 : Int).toNat IntKind.u64.bits)))
  let x5 := IntKind.u64.wrap (x4 + x4.fdiv (2 ^ (min (16 : Int).toNat IntKind.u64.bits)))
  let x6 := IntKind.u64.wrap (x5 + x5.fdiv (2 ^ (min (32 : Int).toNat IntKind.u64.bits)))
  bitsOf .and .i64 (IntKind.i64.wrap x6) 127
theorem ones_full : ∀ n : Fin 65, onesV ((2 ^ n.val - 1 : Nat) : Int) = (n.val : Int) := by decide +kernel
set_option maxHeartbeats 1000000 in
theorem ones_pure (x : Int) : Pure Tryd.prog Tab 59 [.int .u64 x] (.int .i64 (onesV x)) := by
  intro w0 H hT
  refine L_enter Tryd.func59 rfl Tryd.ntmps59 rfl rfl ?_
  refine W_sr ?_
  refine W_assign rfl rfl ?_
  refine W_nil ?_
  refine W_sr ?_
  refine W_move rfl rfl ?_
  refine W_bin rfl rfl (b_shr (by first | decide | omega) rfl) rfl ?_
  refine W_bin rfl rfl (b_and rfl) rfl ?_
  refine W_move rfl rfl ?_
  refine W_bin rfl rfl (b_and rfl) rfl ?_
  refine W_bin rfl rfl (b_add rfl) rfl ?_
  refine W_assign rfl rfl ?_
  refine W_nil ?_
  refine W_sr ?_
  refine W_move rfl rfl ?_
  refine W_bin rfl rfl (b_shr (by first | decide | omega) rfl) rfl ?_
  refine W_bin rfl rfl (b_and rfl) rfl ?_
  refine W_move rfl rfl ?_
  refine W_bin rfl rfl (b_and rfl) rfl ?_
  refine W_bin rfl rfl (b_add rfl) rfl ?_
  refine W_assign rfl rfl ?_
  refine W_nil ?_
  refine W_sr ?_
  refine W_move rfl rfl ?_
  refine W_bin rfl rfl (b_shr (by first | decide | omega) rfl) rfl ?_
  refine W_move rfl rfl ?_
  refine W_bin rfl rfl (b_add rfl) rfl ?_
  refine W_bin rfl rfl (b_and rfl) rfl ?_
  refine W_assign rfl rfl ?_
  refine W_nil ?_
  refine W_sr ?_
  refine W_move rfl rfl ?_
  refine W_move rfl rfl ?_
  refine W_bin rfl rfl (b_shr (by first | decide | omega) rfl) rfl ?_
  refine W_bin rfl rfl (b_add rfl) rfl ?_
  refine W_assign rfl rfl ?_
  refine W_nil ?_
  refine W_sr ?_
  refine W_move rfl rfl ?_
  refine W_move rfl rfl ?_
  refine W_bin rfl rfl (b_shr (by first | decide | omega) rfl) rfl ?_
  refine W_bin rfl rfl (b_add rfl) rfl ?_
  refine W_assign rfl rfl ?_
  refine W_nil ?_
  refine W_sr ?_
  refine W_move rfl rfl ?_
  refine W_move rfl rfl ?_
  refine W_bin rfl rfl (b_shr (by first | decide | omega) rfl) rfl ?_
  refine W_bin rfl rfl (b_add rfl) rfl ?_
  refine W_assign rfl rfl ?_
  refine W_nil ?_
  refine W_sr ?_
  refine W_move rfl rfl ?_
  refine W_conv rfl ty22 ty3 rfl rfl ?_
  refine W_bin rfl rfl (b_and rfl) rfl ?_
  refine W_assign rfl rfl ?_
  refine W_nil ?_
  refine W_ret1m Tryd.results59 rfl (.nil _) (.refl _) ?_
  exact ⟨rfl, rfl⟩
set_option maxHeartbeats 1000000 in
theorem len_pure (x : Int) : Pure Tryd.prog Tab 35 [.int .u64 x] (.int .i64 (onesV x)) := by
  intro w0 H hT
  refine L_enter Tryd.func35 rfl Tryd.ntmps35 rfl rfl ?_
  refine W_sr ?_
  refine W_assign rfl rfl ?_
  refine W_nil ?_
  refine W_sr ?_
  refine W_move rfl rfl ?_
  refine W_callp (.cons rfl .nil) Tryd.call59 rfl hT (ones_pure _) ?_
  refine W_assign rfl rfl ?_
  refine W_nil ?_
  refine W_ret1m Tryd.results35 rfl (.nil _) (.refl _) ?_
  exact ⟨rfl, rfl⟩

theorem full_of_right {c : List Ins} {s : Bool} (hc : InsOk c) (h : (chkR c s).2 = 0) : reachN c = 2 ^ c.length - 1 ∧ 0 < c.length ∧ c.length ≤ 64 := by
  obtain ⟨hl, hall⟩ := right_iff.1 h
  refine ⟨Nat.eq_of_testBit_eq fun i => ?_, by omega, by omega⟩
  rw [Nat.testBit_two_pow_sub_one]
  by_cases hi : i < c.length
  · have h2 := hall 2 (by omega) i hi
    rw [look2] at h2
    have hm : hasN (reachN c) i = true := by cases hh : hasN (reachN c) (i : Int) <;> simp_all
    rw [has_mark (by omega)] at hm
    unfold reachN
    rw [word_bit, hm, decide_eq_true hi]
  · rw [decide_eq_false hi, ← Bool.not_eq_true, reachN_bit hc, List.take_of_length_le (by omega)]
    intro hr
    exact hi hr.lt
theorem next_exit {c : List Ins} {k : Nat} {x : Ins} (hk : k < c.length) (hx : c[k]? = some x) (h : x.op = 73) : nextL c k = [] := by
  rw [nextL_at hk hx]
  have h1 : jumpB x = false := by unfold jumpB; rw [h]; decide
  have h2 : nextB x = false := by unfold nextB; rw [h]; decide
  unfold seqB
  rw [h1, h2]; rfl
theorem next_some {c : List Ins} {s : Bool} (hc : InsOk c) (h : (chkR c s).2 = 0) {k : Nat} {x : Ins} (hk : k < c.length) (hx : c[k]? = some x) (hne : x.op ≠ 73) : nextL c k ≠ [] ∧ (nextL c k).length ≤ 2 := by
  obtain ⟨hl, hall⟩ := right_iff.1 h
  have h1 := hall 1 (by omega) k hk
  rw [look1 hx] at h1
  have hxo := hc x (List.mem_of_getElem? hx)
  have ho1 := hxo.off.1; have ho2 := hxo.off.2
  have e1 : IntKind.i64.wrap ((k : Int) + 1) = k + 1 := i64w ⟨by omega, by omega⟩
  have hw : withinB x c.length k = true := by
    cases hh : withinB x c.length k with
    | true => rfl
    | false => unfold wrongE at h1; rw [hh] at h1; simp at h1
  have hend : ¬ ((k : Int) = (c.length : Int) - 1 ∧ x.op ≠ 32) := fun ⟨he, h32⟩ => by
    unfold wrongE at h1
    have e4 : (decide ((k : Int) = (c.length : Int) - 1) && decide (x.op ≠ 73) && decide (x.op ≠ 32)) = true := by simp [he, hne, h32]
    rw [e4] at h1
    split at h1
    · omega
    · split at h1
      · omega
      · split at h1
        · omega
        · simp at h1
  have hj32 : x.op = 32 → cls x.op = 2 := fun e => by rw [e]; decide
  have hin : cls x.op = 2 → 0 ≤ toV x k ∧ toV x k < (c.length : Int) := fun hj => by
    have h2 := cls2.1 hj
    unfold withinB at hw
    rw [if_neg (by omega), if_neg (by omega)] at hw
    simpa [hj] using hw
  rw [nextL_at hk hx]
  constructor
  · intro he
    rw [List.filter_eq_nil_iff] at he
    have out1 : ∀ z, z ∈ seqB x k → ¬ (0 ≤ z ∧ z < (c.length : Int)) := fun z hz hr => he z hz (by simpa [inB] using hr)
    unfold seqB at out1
    rw [e1] at out1
    by_cases h32 : x.op = 32
    · have hj := hj32 h32
      refine out1 (toV x k) (mem_seqOf.2 (.inl ⟨by simp [jumpB, hj], .inr (by simp [nextB, h32]), rfl⟩)) (hin hj)
    · refine out1 ((k : Int) + 1) (mem_seqOf.2 (.inr (.inl ⟨by simp [nextB, hne, h32], rfl⟩))) ⟨by omega, ?_⟩
      have : ¬ (k : Int) = (c.length : Int) - 1 := fun e => hend ⟨e, h32⟩
      omega
  · refine Nat.le_trans (List.length_filter_le _ _) ?_
    unfold seqB
    rw [e1]
    unfold seqOf
    cases hj : jumpB x <;> cases hn : nextB x <;> by_cases hle : toV x k ≤ k <;> by_cases hgt : (k : Int) + 1 < toV x k <;> simp [hle, hgt] <;> omega
end Go.Proofs.YtpfoecmianohjaaDoor
