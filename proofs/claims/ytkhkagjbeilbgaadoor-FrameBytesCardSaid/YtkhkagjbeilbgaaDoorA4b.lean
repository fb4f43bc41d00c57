/-
  Own work: contracts of functions that the statement reaches, and plain facts on what they compute; each theorem says its conditions.
-/
import Derived.Test.YtkhkagjbeilbgaaDoorA4
set_option linter.all false
set_option linter.unusedSimpArgs false
set_option linter.unusedVariables false
namespace Go.Proofs.YtkhkagjbeilbgaaDoor
open Go Go.Sl
attribute [local irreducible] W

abbrev I64 (z : Int) : Prop := -9223372036854775808 ≤ z ∧ z ≤ 9223372036854775807
def Wd (z : Int) : Prop := 0 ≤ z ∧ z ≤ 18446744073709551615
theorem wd_w (m : Int) : Wd (IntKind.u64.wrap m) := by
  have e : IntKind.u64.wrap m = m % 18446744073709551616 := by simp [IntKind.wrap, IntKind.signed, IntKind.bits]
  rw [e]; exact ⟨by omega, by omega⟩
theorem wd_ite {c : Prop} [Decidable c] {x y : Int} (hx : Wd x) (hy : Wd y) : Wd (if c then x else y) := by
  by_cases h : c
  · rw [if_pos h]; exact hx
  · rw [if_neg h]; exact hy
theorem bits_wd (op : BinOp) (a b : Int) : Wd (bitsOf op .u64 a b) := by unfold bitsOf; exact wd_w _
theorem fdiv_wd {a : Int} (ha : Wd a) (k : Nat) : Wd (a.fdiv (2 ^ k)) := by
  have h2 : (0 : Int) < 2 ^ k := Int.pow_pos (by decide)
  rw [Int.fdiv_eq_ediv_of_nonneg _ (Int.le_of_lt h2)]
  exact ⟨Int.ediv_nonneg ha.1 (Int.le_of_lt h2), Int.le_trans (Int.ediv_le_self _ ha.1) ha.2⟩
theorem tmod_wd {a b : Int} (ha : Wd a) (hb : Wd b) : Wd (a.tmod b) := by
  have h1 := Int.tmod_nonneg b ha.1
  have h2 : a.tmod b ≤ a := by
    rw [Int.tmod_eq_emod_of_nonneg ha.1]
    have h3 := Int.mul_nonneg hb.1 (Int.ediv_nonneg ha.1 hb.1)
    have h4 := Int.mul_ediv_add_emod a b
    generalize b * (a / b) = q at h3 h4
    omega
  exact ⟨h1, Int.le_trans h2 ha.2⟩
theorem doS_wd (p : Int) {a b : Int} (ha : Wd a) (hb : Wd b) : Wd (doS p a b) := by
  unfold doS
  repeat' (refine wd_ite ?_ ?_)
  all_goals first | exact wd_w _ | exact bits_wd _ _ _ | exact ha | exact hb | exact fdiv_wd ha _ | exact tmod_wd ha hb | exact ⟨by decide, by decide⟩
end Go.Proofs.YtkhkagjbeilbgaaDoor
