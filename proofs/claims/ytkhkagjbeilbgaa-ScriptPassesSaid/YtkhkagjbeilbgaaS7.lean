/-
  Own work: contracts of functions that the statement reaches, and plain facts on what they compute; each theorem says its conditions.
-/
import Derived.Test.YtkhkagjbeilbgaaS6
set_option linter.all false
set_option linter.unusedSimpArgs false
set_option linter.unusedVariables false
namespace Go.Proofs.Ytkhkagjbeilbgaa
open Go Go.Sl
attribute [local irreducible] W
open Go.Script

theorem u8_wrap (z : Int) : IntKind.u8.wrap z = z % 256 := by simp [IntKind.wrap, IntKind.signed, IntKind.bits, IntKind.max]
theorem u64_id {z : Int} (h : 0 ≤ z ∧ z < 18446744073709551616) : IntKind.u64.wrap z = z := by rw [u64_wrap]; unfold u64; omega
theorem shr8 (z : Int) : z.fdiv (2 ^ (min (8 : Int).toNat IntKind.u64.bits)) = z / 256 := by
  rw [show (2 : Int) ^ (min (8 : Int).toNat IntKind.u64.bits) = 256 by decide, Int.fdiv_eq_ediv_of_nonneg _ (by decide)]
theorem lowL_snoc : ∀ (i : Nat) (n : Int), lowL n (i + 1) = lowL n i ++ [(n / 256 ^ i) % 256]
  | 0, n => by simp [lowL]
  | i + 1, n => by
    show n % 256 :: lowL (n / 256) (i + 1) = (n % 256 :: lowL (n / 256) i) ++ _
    rw [lowL_snoc i (n / 256), List.cons_append]
    congr 3
    rw [Int.pow_succ, Int.mul_comm, ← Int.ediv_ediv_of_nonneg (by decide)]
theorem bytesV_append (a b : List Int) : bytesV (a ++ b) = bytesV a ++ bytesV b := by simp [bytesV]
theorem bytesV_len (a : List Int) : (bytesV a).length = a.length := by simp [bytesV]
theorem bytesV_one (a : List Int) : (bytesV a).all Value.oneCell' = true := by simp [bytesV, Value.oneCell']
theorem div_pow (n : Int) (i : Nat) : n / 256 ^ i / 256 = n / 256 ^ (i + 1) := by rw [Int.ediv_ediv_of_nonneg (Int.le_of_lt (Int.pow_pos (by decide))), Int.pow_succ]
theorem pow_bound {n : Int} (h : Wd n) (i : Nat) : Wd (n / 256 ^ i) := by
  have hp : (0 : Int) < 256 ^ i := Int.pow_pos (by decide)
  unfold Wd at *
  refine ⟨Int.ediv_nonneg h.1 (Int.le_of_lt hp), Int.lt_of_le_of_lt (Int.ediv_le_self _ h.1) h.2⟩
set_option maxHeartbeats 1000000 in
theorem low_L {w0 : World} {H : Heap} {n : Int} (hn : Wd n) (k : Nat) (hk : k ≤ 1000)  : LCalls Try.prog w0 30 #[.int .u64 n, .int .i64 (k : Int)] (H) (fun v H' => ∃ HB, OwnS 5 1 v k (bytesV (lowL n k)) HB ∧ H' = HB ++ H) := by
  refine L_enter (l := [.int .u64 n, .int .i64 (k : Int)]) Try.func30 rfl Try.ntmps30 rfl rfl ?_
  refine W_sr ?_
  refine W_assign rfl rfl ?_
  refine W_nil ?_
  refine W_sr ?_
  refine W_assign rfl rfl ?_
  refine W_nil ?_
  refine W_seq ?_
  refine W_sr ?_
  refine W_move rfl rfl ?_
  refine W_move rfl rfl ?_
  refine W_nil ?_
  refine W_block ?_
  refine W_loopC (X := (Nat × Value × Heap)) [(6, _)] (fun (x : (Nat × Value × Heap)) => [(0, .int .u64 (n / 256 ^ x.1)), (5, x.2.1), (7, .int .i64 (x.1 : Int))]) (fun _ => _) (fun (x : (Nat × Value × Heap)) => x.2.2 ++ H) (fun (x : (Nat × Value × Heap)) => x.1 ≤ k ∧ OwnS 5 1 x.2.1 x.1 (bytesV (lowL n x.1)) x.2.2) (fun (x : (Nat × Value × Heap)) => k - x.1) (0, .slice none 0 0, []) ⟨by simp, .nil⟩ (sub_cons rfl (sub_nil _)) (sub_cons (by simp; rfl) (sub_cons rfl (sub_cons rfl (sub_nil _)))) rfl (by repeat (first | exact HSub.refl _ | refine HSub.cons (by repeat (first | exact Take.here _ | apply Take.next | apply Take.app)) ?_ | refine HSub.app (by repeat (first | exact TakeS.here _ | apply TakeS.next | apply TakeS.app)) ?_ | refine HSub.drop ?_ | refine HSub.dropS ?_ | exact HSub.nil _)) ?_
  rintro ⟨i, v, HB⟩ ⟨hi, hO⟩
  dsimp only at hi hO ⊢
  simp only [List.cons_append, List.nil_append]
  refine W_sr ?_
  refine W_bin rfl rfl b_lss rfl ?_
  refine W_nil ?_
  refine W_seq ?_
  refine W_condPS (p := (i : Int) < (k : Int)) rfl (by simp) (fun c0 => ?_) (fun c0 => ?_)
  · skip
    refine W_skip ?_
    refine W_seq ?_
    refine W_block ?_
    refine W_sr ?_
    refine W_move rfl rfl ?_
    refine W_move rfl rfl ?_
    refine W_conv rfl ty27 ty5 rfl rfl ?_
    rw [u8_wrap]
    refine W_buildSlice ty22 ty5 (.cons rfl rfl rfl rfl rfl .nil) rfl rfl rfl rfl rfl rfl rfl (fun b12 => ?_)
    refine W_append (news := bytesV [(n / 256 ^ i) % 256]) (m := 1) (HB := HB) (H0 := H) rfl rfl ty22 ty5 rfl (by decide) hO rfl (Holds.own List.mem_cons_self) rfl (by simp only [maxLen]; omega) (by omega) (by repeat (first | exact HSub.refl _ | refine HSub.cons (by repeat (first | exact Take.here _ | apply Take.next | apply Take.app)) ?_ | refine HSub.app (by repeat (first | exact TakeS.here _ | apply TakeS.next | apply TakeS.app)) ?_ | refine HSub.drop ?_ | refine HSub.dropS ?_ | exact HSub.nil _)) rfl (fun v' HB' hO' => ?_)
    refine W_assign rfl rfl ?_
    refine W_nil ?_
    refine W_region ?_
    refine W_move rfl rfl ?_
    refine W_bin rfl rfl (b_shr (m := n / 256 ^ (i + 1)) (by decide) ((shr8 _).trans (div_pow n i))) rfl ?_
    refine W_assign rfl rfl ?_
    refine W_nil ?_
    refine W_blk ?_
    refine W_region ?_
    refine W_bin rfl rfl (b_add (m := ((i + 1 : Nat) : Int)) ((i64w (by omega)).trans (by omega))) rfl ?_
    refine W_move rfl rfl ?_
    refine W_nil ?_
    refine W_again (i + 1, v', HB') ⟨by show i + 1 ≤ k; omega, by show OwnS _ _ v' (i + 1) _ HB'; rw [lowL_snoc, bytesV_append]; exact hO'⟩ (by show k - (i + 1) < k - i; omega) (sub_cons rfl (sub_cons rfl (sub_cons rfl (sub_cons rfl (sub_nil _))))) rfl (by repeat (first | exact HSub.refl _ | refine HSub.cons (by repeat (first | exact Take.here _ | apply Take.next | apply Take.app)) ?_ | refine HSub.app (by repeat (first | exact TakeS.here _ | apply TakeS.next | apply TakeS.app)) ?_ | refine HSub.drop ?_ | refine HSub.dropS ?_ | exact HSub.nil _))
  · skip
    refine W_exit rfl ?_
    refine W_sr ?_
    refine W_move rfl rfl ?_
    refine W_assign rfl rfl ?_
    refine W_nil ?_
    refine W_ret1m (H2 := HB ++ H) Try.results30 rfl (.nil _) (by repeat (first | exact HSub.refl _ | refine HSub.cons (by repeat (first | exact Take.here _ | apply Take.next | apply Take.app)) ?_ | refine HSub.app (by repeat (first | exact TakeS.here _ | apply TakeS.next | apply TakeS.app)) ?_ | refine HSub.drop ?_ | refine HSub.dropS ?_ | exact HSub.nil _)) ?_
    obtain rfl : i = k := by omega
    exact ⟨HB, hO, rfl⟩
set_option maxHeartbeats 1000000 in
theorem rnumber_L {w0 : World} {H : Heap} {n : Int} (hn : Wd n) (k : Nat) (hk : k ≤ 1000)  : LCalls Try.prog w0 27 #[.int .u64 n, .int .i64 (k : Int)] (H) (fun v H' => ∃ HB, OwnS 5 1 v k (bytesV (lowL n k)) HB ∧ H' = HB ++ H) := by
  refine L_enter (l := [.int .u64 n, .int .i64 (k : Int)]) Try.func27 rfl Try.ntmps27 rfl rfl ?_
  refine W_sr ?_
  refine W_assign rfl rfl ?_
  refine W_nil ?_
  refine W_sr ?_
  refine W_assign rfl rfl ?_
  refine W_nil ?_
  refine W_seq ?_
  refine W_sr ?_
  refine W_assign rfl rfl ?_
  refine W_nil ?_
  refine W_block ?_
  refine W_loopC (X := (Nat × Value × Heap)) [(1, _)] (fun (x : (Nat × Value × Heap)) => [(0, .int .u64 (n / 256 ^ x.1)), (5, x.2.1), (6, .int .i64 (x.1 : Int))]) (fun _ => _) (fun (x : (Nat × Value × Heap)) => x.2.2 ++ H) (fun (x : (Nat × Value × Heap)) => x.1 ≤ k ∧ OwnS 5 1 x.2.1 x.1 (bytesV (lowL n x.1)) x.2.2) (fun (x : (Nat × Value × Heap)) => k - x.1) (0, .slice none 0 0, []) ⟨by simp, .nil⟩ (sub_cons rfl (sub_nil _)) (sub_cons (by simp; rfl) (sub_cons rfl (sub_cons rfl (sub_nil _)))) rfl (by repeat (first | exact HSub.refl _ | refine HSub.cons (by repeat (first | exact Take.here _ | apply Take.next | apply Take.app)) ?_ | refine HSub.app (by repeat (first | exact TakeS.here _ | apply TakeS.next | apply TakeS.app)) ?_ | refine HSub.drop ?_ | refine HSub.dropS ?_ | exact HSub.nil _)) ?_
  rintro ⟨i, v, HB⟩ ⟨hi, hO⟩
  dsimp only at hi hO ⊢
  have hp := pow_bound hn i
  simp only [List.cons_append, List.nil_append]
  refine W_seq ?_
  refine W_sr ?_
  refine W_move rfl rfl ?_
  refine W_move rfl rfl ?_
  refine W_bin rfl rfl b_lss rfl ?_
  refine W_nil ?_
  refine W_condPS (p := (i : Int) < (k : Int)) rfl (by simp) (fun c0 => ?_) (fun c0 => ?_)
  · skip
    refine W_skip ?_
    refine W_seq ?_
    refine W_block ?_
    refine W_sr ?_
    refine W_move rfl rfl ?_
    refine W_move rfl rfl ?_
    refine W_bin rfl rfl (b_rem (by decide) (Int.tmod_eq_emod_of_nonneg hp.1)) rfl ?_
    refine W_conv rfl ty27 ty5 rfl rfl ?_
    rw [u8_wrap, Int.emod_emod_of_dvd _ (Int.dvd_refl _)]
    refine W_buildSlice ty22 ty5 (.cons rfl rfl rfl rfl rfl .nil) rfl rfl rfl rfl rfl rfl rfl (fun b16 => ?_)
    refine W_append (news := bytesV [(n / 256 ^ i) % 256]) (m := 1) (HB := HB) (H0 := H) rfl rfl ty22 ty5 rfl (by decide) hO rfl (Holds.own List.mem_cons_self) rfl (by simp only [maxLen]; omega) (by omega) (by repeat (first | exact HSub.refl _ | refine HSub.cons (by repeat (first | exact Take.here _ | apply Take.next | apply Take.app)) ?_ | refine HSub.app (by repeat (first | exact TakeS.here _ | apply TakeS.next | apply TakeS.app)) ?_ | refine HSub.drop ?_ | refine HSub.dropS ?_ | exact HSub.nil _)) rfl (fun v' HB' hO' => ?_)
    refine W_assign rfl rfl ?_
    refine W_nil ?_
    refine W_region ?_
    refine W_move rfl rfl ?_
    refine W_bin rfl rfl (b_quo (m := n / 256 ^ (i + 1)) (by decide) (by rw [Int.tdiv_eq_ediv_of_nonneg hp.1, div_pow]; exact u64_id (pow_bound hn _))) rfl ?_
    refine W_assign rfl rfl ?_
    refine W_nil ?_
    refine W_blk ?_
    refine W_region ?_
    refine W_move rfl rfl ?_
    refine W_bin rfl rfl (b_add (m := ((i + 1 : Nat) : Int)) ((i64w (by omega)).trans (by omega))) rfl ?_
    refine W_assign rfl rfl ?_
    refine W_nil ?_
    refine W_again (i + 1, v', HB') ⟨by show i + 1 ≤ k; omega, by show OwnS _ _ v' (i + 1) _ HB'; rw [lowL_snoc, bytesV_append]; exact hO'⟩ (by show k - (i + 1) < k - i; omega) (sub_cons rfl (sub_cons rfl (sub_cons rfl (sub_cons rfl (sub_nil _))))) rfl (by repeat (first | exact HSub.refl _ | refine HSub.cons (by repeat (first | exact Take.here _ | apply Take.next | apply Take.app)) ?_ | refine HSub.app (by repeat (first | exact TakeS.here _ | apply TakeS.next | apply TakeS.app)) ?_ | refine HSub.drop ?_ | refine HSub.dropS ?_ | exact HSub.nil _))
  · skip
    refine W_exit rfl ?_
    refine W_sr ?_
    refine W_move rfl rfl ?_
    refine W_assign rfl rfl ?_
    refine W_nil ?_
    refine W_ret1m (H2 := HB ++ H) Try.results27 rfl (.nil _) (by repeat (first | exact HSub.refl _ | refine HSub.cons (by repeat (first | exact Take.here _ | apply Take.next | apply Take.app)) ?_ | refine HSub.app (by repeat (first | exact TakeS.here _ | apply TakeS.next | apply TakeS.app)) ?_ | refine HSub.drop ?_ | refine HSub.dropS ?_ | exact HSub.nil _)) ?_
    obtain rfl : i = k := by omega
    exact ⟨HB, hO, rfl⟩
end Go.Proofs.Ytkhkagjbeilbgaa
