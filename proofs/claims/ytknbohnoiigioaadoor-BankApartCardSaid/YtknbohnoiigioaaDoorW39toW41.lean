/-
  Own work: contracts of functions that the statement reaches, and plain facts on what they compute; each theorem says its conditions.
-/
import Derived.Test.YtknbohnoiigioaaDoorW35toW37
set_option linter.all false
set_option linter.unusedSimpArgs false
set_option linter.unusedVariables false
namespace Go.Proofs.YtknbohnoiigioaaDoor
open Go Go.Sl
attribute [local irreducible] W
set_option maxHeartbeats 1000000 in
theorem rAdd_pure {a b : Nat} (ha : a ≤ 18446744073709551615) (hb : b ≤ 18446744073709551615) : Pure Tryd.prog (fun _ => True) 104 [.int .u64 ((a : Nat) : Int), .int .u64 ((b : Nat) : Int)] (.tuple #[.int .u64 (addT a b : Nat), .bool (addOk a b)]) := by
  intro w0 H hT
  refine L_enter Tryd.func104 rfl Tryd.ntmps104 rfl rfl ?_
  refine W_sr ?_
  refine W_assign rfl rfl ?_
  refine W_assign rfl rfl ?_
  refine W_nil ?_
  refine W_sr ?_
  refine W_move rfl rfl ?_
  refine W_bin rfl rfl (b_rem (by decide) (m := ((a % 4294967296 : Nat) : Int)) (tmN _ 4294967296)) rfl ?_
  refine W_move rfl rfl ?_
  refine W_bin rfl rfl (b_rem (by decide) (m := ((b % 4294967296 : Nat) : Int)) (tmN _ 4294967296)) rfl ?_
  refine W_bin rfl rfl (b_add (m := (((a % 4294967296 + b % 4294967296) : Nat) : Int)) (by rw [u64w ⟨by omega, by omega⟩]; omega)) rfl ?_
  refine W_assign rfl rfl ?_
  refine W_nil ?_
  refine W_sr ?_
  refine W_move rfl rfl ?_
  refine W_bin rfl rfl (b_quo (by decide) (m := ((a / 4294967296 : Nat) : Int)) (by rw [show ((a : Nat) : Int).tdiv 4294967296 = ((a / 4294967296 : Nat) : Int) from tdN _ 4294967296]; exact u64w ⟨by omega, by omega⟩)) rfl ?_
  refine W_move rfl rfl ?_
  refine W_bin rfl rfl (b_quo (by decide) (m := ((b / 4294967296 : Nat) : Int)) (by rw [show ((b : Nat) : Int).tdiv 4294967296 = ((b / 4294967296 : Nat) : Int) from tdN _ 4294967296]; exact u64w ⟨by omega, by omega⟩)) rfl ?_
  refine W_bin rfl rfl (b_add (m := (((a / 4294967296 + b / 4294967296) : Nat) : Int)) (by rw [u64w ⟨by omega, by omega⟩]; omega)) rfl ?_
  refine W_move rfl rfl ?_
  refine W_bin rfl rfl (b_quo (by decide) (m := (((a % 4294967296 + b % 4294967296) / 4294967296 : Nat) : Int)) (by rw [show (((a % 4294967296 + b % 4294967296) : Nat) : Int).tdiv 4294967296 = (((a % 4294967296 + b % 4294967296) / 4294967296 : Nat) : Int) from tdN _ 4294967296]; exact u64w ⟨by omega, by omega⟩)) rfl ?_
  refine W_bin rfl rfl (b_add (m := (((a / 4294967296 + b / 4294967296 + (a % 4294967296 + b % 4294967296) / 4294967296) : Nat) : Int)) (by rw [u64w ⟨by omega, by omega⟩]; omega)) rfl ?_
  refine W_assign rfl rfl ?_
  refine W_nil ?_
  refine W_seq ?_
  refine W_sr ?_
  refine W_move rfl rfl ?_
  refine W_bin rfl rfl b_geq rfl ?_
  refine W_nil ?_
  refine W_condPS (p := 4294967296 ≤ (a / 4294967296 + b / 4294967296 + (a % 4294967296 + b % 4294967296) / 4294967296)) rfl (by rw [decide_eq_true_eq]; omega) (fun q0 => ?_) (fun q0 => ?_)
  · skip
    refine W_sr ?_
    refine W_assign rfl rfl ?_
    refine W_assign rfl rfl ?_
    refine W_nil ?_
    refine W_ret2m (H2 := H) Tryd.results104 rfl rfl (.nil _) (by repeat (first | with_reducible exact HSub.refl _ | refine HSub.cons (by repeat (first | exact Take.here _ | apply Take.next | apply Take.app)) ?_ | refine HSub.app (by repeat (first | with_reducible exact TakeS.here _ | apply TakeS.next | apply TakeS.app)) ?_ | exact HSub.nil _ | exact HSub.refl _ | refine HSub.drop ?_ | refine HSub.dropS ?_)) ?_
    exact ⟨by rw [show addT a b = 18446744073709551615 from if_pos (by omega), show addOk a b = false from by unfold addOk; rw [decide_eq_true (by omega)]; rfl]; rfl, rfl⟩
  · skip
    refine W_skip ?_
    refine W_sr ?_
    refine W_move rfl rfl ?_
    refine W_bin rfl rfl (b_mul (m := (((a / 4294967296 + b / 4294967296 + (a % 4294967296 + b % 4294967296) / 4294967296) * 4294967296 : Nat) : Int)) (by rw [u64w ⟨by omega, by omega⟩]; omega)) rfl ?_
    refine W_move rfl rfl ?_
    refine W_bin rfl rfl (b_rem (by decide) (m := (((a % 4294967296 + b % 4294967296) % 4294967296 : Nat) : Int)) (tmN _ 4294967296)) rfl ?_
    refine W_bin rfl rfl (b_add (m := (((a + b) : Nat) : Int)) (by rw [u64w ⟨by omega, by omega⟩]; omega)) rfl ?_
    refine W_assign rfl rfl ?_
    refine W_assign rfl rfl ?_
    refine W_nil ?_
    refine W_ret2m (H2 := H) Tryd.results104 rfl rfl (.nil _) (by repeat (first | with_reducible exact HSub.refl _ | refine HSub.cons (by repeat (first | exact Take.here _ | apply Take.next | apply Take.app)) ?_ | refine HSub.app (by repeat (first | with_reducible exact TakeS.here _ | apply TakeS.next | apply TakeS.app)) ?_ | exact HSub.nil _ | exact HSub.refl _ | refine HSub.drop ?_ | refine HSub.dropS ?_)) ?_
    exact ⟨by rw [show addT a b = a + b from if_neg (by omega), show addOk a b = true from by unfold addOk; rw [decide_eq_false (by omega)]; rfl], rfl⟩
set_option maxHeartbeats 1000000 in
theorem rClamp_pure {a b h : Nat} (ha : a ≤ 18446744073709551615) (hb : b ≤ 18446744073709551615) (hh : h ≤ 18446744073709551615) : Pure Tryd.prog (fun _ => True) 82 [.int .u64 ((a : Nat) : Int), .int .u64 ((b : Nat) : Int), .int .u64 ((h : Nat) : Int)] (.int .u64 ((clampT a b h : Nat) : Int)) := by
  intro w0 H hT
  refine L_enter Tryd.func82 rfl Tryd.ntmps82 rfl rfl ?_
  refine W_sr ?_
  refine W_assign rfl rfl ?_
  refine W_nil ?_
  refine W_sr ?_
  refine W_move rfl rfl ?_
  refine W_callp (.cons rfl (.cons rfl .nil)) Tryd.call104 rfl (T := fun _ => True) trivial (rAdd_pure (b := 1) ha (by decide)) ?_
  obtain ⟨lo, hlo⟩ : ∃ lo, lo = addT a 1 := ⟨_, rfl⟩
  rw [← hlo]
  refine W_move rfl rfl ?_
  refine W_extract rfl rfl rfl ?_
  refine W_extract rfl rfl rfl ?_
  refine W_assign rfl rfl ?_
  refine W_assign rfl rfl ?_
  refine W_nil ?_
  refine W_sr ?_
  refine W_move rfl rfl ?_
  refine W_move rfl rfl ?_
  refine W_callp (.cons rfl (.cons rfl .nil)) Tryd.call104 rfl (T := fun _ => True) trivial (rAdd_pure (b := h) ha hh) ?_
  obtain ⟨hi, hhi⟩ : ∃ hi, hi = addT a h := ⟨_, rfl⟩
  rw [← hhi]
  refine W_move rfl rfl ?_
  refine W_extract rfl rfl rfl ?_
  refine W_extract rfl rfl rfl ?_
  refine W_assign rfl rfl ?_
  refine W_assign rfl rfl ?_
  refine W_nil ?_
  refine W_seq ?_
  refine W_sr ?_
  refine W_move rfl rfl ?_
  refine W_move rfl rfl ?_
  refine W_bin rfl rfl b_lss rfl ?_
  refine W_nil ?_
  refine W_condPS (p := b < lo) rfl (by rw [decide_eq_true_eq]; omega) (fun q0 => ?_) (fun q0 => ?_)
  · skip
    refine W_region ?_
    refine W_move rfl rfl ?_
    refine W_assign rfl rfl ?_
    refine W_nil ?_
    refine W_seq ?_
    refine W_sr ?_
    refine W_move rfl rfl ?_
    refine W_move rfl rfl ?_
    refine W_bin rfl rfl b_gtr rfl ?_
    refine W_nil ?_
    refine W_condPS (p := hi < lo) rfl (by rw [decide_eq_true_eq]; omega) (fun q1 => ?_) (fun q1 => ?_)
    · skip
      refine W_region ?_
      refine W_move rfl rfl ?_
      refine W_assign rfl rfl ?_
      refine W_nil ?_
      refine W_sr ?_
      refine W_move rfl rfl ?_
      refine W_assign rfl rfl ?_
      refine W_nil ?_
      refine W_ret1m (H2 := H) Tryd.results82 rfl (.nil _) (by repeat (first | with_reducible exact HSub.refl _ | refine HSub.cons (by repeat (first | exact Take.here _ | apply Take.next | apply Take.app)) ?_ | refine HSub.app (by repeat (first | with_reducible exact TakeS.here _ | apply TakeS.next | apply TakeS.app)) ?_ | exact HSub.nil _ | exact HSub.refl _ | refine HSub.drop ?_ | refine HSub.dropS ?_)) ?_
      have hcl : clampT a b h = hi := by show min (max b (addT a 1)) (addT a h) = _; rw [← hlo, ← hhi]; omega
      refine ⟨?_, rfl⟩
      rw [hcl]
      first | done | rfl
    · skip
      refine W_skip ?_
      refine W_sr ?_
      refine W_move rfl rfl ?_
      refine W_assign rfl rfl ?_
      refine W_nil ?_
      refine W_ret1m (H2 := H) Tryd.results82 rfl (.nil _) (by repeat (first | with_reducible exact HSub.refl _ | refine HSub.cons (by repeat (first | exact Take.here _ | apply Take.next | apply Take.app)) ?_ | refine HSub.app (by repeat (first | with_reducible exact TakeS.here _ | apply TakeS.next | apply TakeS.app)) ?_ | exact HSub.nil _ | exact HSub.refl _ | refine HSub.drop ?_ | refine HSub.dropS ?_)) ?_
      have hcl : clampT a b h = lo := by show min (max b (addT a 1)) (addT a h) = _; rw [← hlo, ← hhi]; omega
      refine ⟨?_, rfl⟩
      rw [hcl]
      first | done | rfl
  · skip
    refine W_skip ?_
    refine W_seq ?_
    refine W_sr ?_
    refine W_move rfl rfl ?_
    refine W_move rfl rfl ?_
    refine W_bin rfl rfl b_gtr rfl ?_
    refine W_nil ?_
    refine W_condPS (p := hi < b) rfl (by rw [decide_eq_true_eq]; omega) (fun q1 => ?_) (fun q1 => ?_)
    · skip
      refine W_region ?_
      refine W_move rfl rfl ?_
      refine W_assign rfl rfl ?_
      refine W_nil ?_
      refine W_sr ?_
      refine W_move rfl rfl ?_
      refine W_assign rfl rfl ?_
      refine W_nil ?_
      refine W_ret1m (H2 := H) Tryd.results82 rfl (.nil _) (by repeat (first | with_reducible exact HSub.refl _ | refine HSub.cons (by repeat (first | exact Take.here _ | apply Take.next | apply Take.app)) ?_ | refine HSub.app (by repeat (first | with_reducible exact TakeS.here _ | apply TakeS.next | apply TakeS.app)) ?_ | exact HSub.nil _ | exact HSub.refl _ | refine HSub.drop ?_ | refine HSub.dropS ?_)) ?_
      have hcl : clampT a b h = hi := by show min (max b (addT a 1)) (addT a h) = _; rw [← hlo, ← hhi]; omega
      refine ⟨?_, rfl⟩
      rw [hcl]
      first | done | rfl
    · skip
      refine W_skip ?_
      refine W_sr ?_
      refine W_move rfl rfl ?_
      refine W_assign rfl rfl ?_
      refine W_nil ?_
      refine W_ret1m (H2 := H) Tryd.results82 rfl (.nil _) (by repeat (first | with_reducible exact HSub.refl _ | refine HSub.cons (by repeat (first | exact Take.here _ | apply Take.next | apply Take.app)) ?_ | refine HSub.app (by repeat (first | with_reducible exact TakeS.here _ | apply TakeS.next | apply TakeS.app)) ?_ | exact HSub.nil _ | exact HSub.refl _ | refine HSub.drop ?_ | refine HSub.dropS ?_)) ?_
      have hcl : clampT a b h = b := by show min (max b (addT a 1)) (addT a h) = _; rw [← hlo, ← hhi]; omega
      refine ⟨?_, rfl⟩
      rw [hcl]
      first | done | rfl
set_option maxHeartbeats 1000000 in
theorem rGran_pure {n : Nat} (hn : n < 8) : Pure Tryd.prog (fun _ => True) 84 [.int .i64 (n : Int)] (.int .u64 ((8 ^ n : Nat) : Int)) := by
  intro w0 H hT
  refine L_enter Tryd.func84 rfl Tryd.ntmps84 rfl rfl ?_
  refine W_sr ?_
  refine W_assign rfl rfl ?_
  refine W_nil ?_
  refine W_seq ?_
  refine W_sr ?_
  refine W_move rfl rfl ?_
  refine W_bin rfl rfl b_lss rfl ?_
  rw [decide_eq_false (by omega)]
  refine W_move rfl rfl ?_
  refine W_gyes rfl rfl ?_
  refine W_move rfl rfl ?_
  refine W_gyes rfl rfl ?_
  refine W_bin rfl rfl b_gtr rfl ?_
  rw [decide_eq_false (by omega)]
  first | refine W_pickt rfl rfl rfl ?_ | refine W_pickf rfl rfl rfl ?_
  refine W_nil ?_
  refine W_condF rfl rfl ?_
  refine W_skip ?_
  refine W_sr ?_
  refine W_assign rfl rfl ?_
  refine W_nil ?_
  refine W_seq ?_
  refine W_sr ?_
  refine W_assign rfl rfl ?_
  refine W_nil ?_
  refine W_block ?_
  refine W_loopC (X := Nat) [(0, _)] (fun (i : Nat) => [(3, .int .u64 ((8 ^ i : Nat) : Int)), (4, .int .i64 (i : Int))]) (fun _ => _) (fun (i : Nat) => H) (fun (i : Nat) => i ≤ n) (fun (i : Nat) => n - i) 0 (Nat.zero_le _) (sub_cons rfl (sub_nil _)) (sub_cons rfl (sub_cons rfl (sub_nil _))) rfl (by repeat (first | with_reducible exact HSub.refl _ | refine HSub.cons (by repeat (first | exact Take.here _ | apply Take.next | apply Take.app)) ?_ | refine HSub.app (by repeat (first | with_reducible exact TakeS.here _ | apply TakeS.next | apply TakeS.app)) ?_ | exact HSub.nil _ | exact HSub.refl _ | refine HSub.drop ?_ | refine HSub.dropS ?_)) ?_
  intro i hi
  have hp := pow8 (n := i) (by omega)
  simp only [List.cons_append, List.nil_append]
  refine W_seq ?_
  refine W_sr ?_
  refine W_move rfl rfl ?_
  refine W_move rfl rfl ?_
  refine W_bin rfl rfl b_lss rfl ?_
  refine W_nil ?_
  refine W_condPS (p := (i : Int) < (n : Int)) rfl (by simp) (fun q0 => ?_) (fun q0 => ?_)
  · skip
    refine W_skip ?_
    refine W_seq ?_
    refine W_block ?_
    refine W_region ?_
    refine W_move rfl rfl ?_
    have hi8 : i < 8 := by omega
    have hp7 : 8 ^ i * 8 ≤ 16777216 := by omega
    refine W_bin rfl rfl (b_mul (m := ((8 ^ (i + 1) : Nat) : Int)) (by rw [Nat.pow_succ]; generalize 8 ^ i = g at *; rw [u64w ⟨by omega, by omega⟩]; omega)) rfl ?_
    refine W_assign rfl rfl ?_
    refine W_nil ?_
    refine W_blk ?_
    refine W_region ?_
    refine W_move rfl rfl ?_
    refine W_bin rfl rfl (b_add (m := ((i + 1 : Nat) : Int)) ((i64w (by omega)).trans (by omega))) rfl ?_
    refine W_assign rfl rfl ?_
    refine W_nil ?_
    refine W_again (i + 1) (by omega) (by omega) (sub_cons rfl (sub_cons rfl (sub_cons rfl (sub_nil _)))) rfl (by repeat (first | with_reducible exact HSub.refl _ | refine HSub.cons (by repeat (first | exact Take.here _ | apply Take.next | apply Take.app)) ?_ | refine HSub.app (by repeat (first | with_reducible exact TakeS.here _ | apply TakeS.next | apply TakeS.app)) ?_ | exact HSub.nil _ | exact HSub.refl _ | refine HSub.drop ?_ | refine HSub.dropS ?_))
  · skip
    refine W_exit rfl ?_
    refine W_sr ?_
    refine W_move rfl rfl ?_
    refine W_assign rfl rfl ?_
    refine W_nil ?_
    refine W_ret1m (H2 := H) Tryd.results84 rfl (.nil _) (by repeat (first | with_reducible exact HSub.refl _ | refine HSub.cons (by repeat (first | exact Take.here _ | apply Take.next | apply Take.app)) ?_ | refine HSub.app (by repeat (first | with_reducible exact TakeS.here _ | apply TakeS.next | apply TakeS.app)) ?_ | exact HSub.nil _ | exact HSub.refl _ | refine HSub.drop ?_ | refine HSub.dropS ?_)) ?_
    obtain rfl : i = n := by omega
    exact ⟨rfl, rfl⟩
set_option maxHeartbeats 1000000 in
theorem rOf_pure {d : Nat} (hd : d ≤ 18446744073709551615) : Pure Tryd.prog (fun _ => True) 83 [.int .u64 ((d : Nat) : Int)] (.tuple #[.int .i64 ((lvOf d).1 : Nat), .bool (lvOf d).2]) := by
  intro w0 H hT
  refine L_enter Tryd.func83 rfl Tryd.ntmps83 rfl rfl ?_
  refine W_sr ?_
  refine W_assign rfl rfl ?_
  refine W_assign rfl rfl ?_
  refine W_nil ?_
  refine W_seq ?_
  refine W_sr ?_
  refine W_assign rfl rfl ?_
  refine W_nil ?_
  refine W_block ?_
  refine W_loopC (X := Nat) [(0, _)] (fun (i : Nat) => [(4, .int .i64 (i : Int))]) (fun _ => _) (fun (i : Nat) => H) (fun (i : Nat) => i ≤ 8 ∧ ∀ j, j < i → 63 * 8 ^ j ≤ d) (fun (i : Nat) => 8 - i) 0 ⟨Nat.zero_le _, fun j hj => by omega⟩ (sub_cons rfl (sub_nil _)) (sub_cons rfl (sub_nil _)) rfl (by repeat (first | with_reducible exact HSub.refl _ | refine HSub.cons (by repeat (first | exact Take.here _ | apply Take.next | apply Take.app)) ?_ | refine HSub.app (by repeat (first | with_reducible exact TakeS.here _ | apply TakeS.next | apply TakeS.app)) ?_ | exact HSub.nil _ | exact HSub.refl _ | refine HSub.drop ?_ | refine HSub.dropS ?_)) ?_
  rintro i ⟨hi, hl⟩
  simp only [List.cons_append, List.nil_append]
  refine W_seq ?_
  refine W_sr ?_
  refine W_move rfl rfl ?_
  refine W_bin rfl rfl b_lss rfl ?_
  refine W_nil ?_
  refine W_condPS (p := (i : Int) < 8) rfl (by simp) (fun q0 => ?_) (fun q0 => ?_)
  · skip
    refine W_skip ?_
    refine W_seq ?_
    refine W_block ?_
    refine W_sr ?_
    refine W_move rfl rfl ?_
    have hi8 : i < 8 := by omega
    refine W_bin rfl rfl (b_quo (by decide) (m := ((d / 63 : Nat) : Int)) (by rw [show ((d : Nat) : Int).tdiv 63 = ((d / 63 : Nat) : Int) from tdN _ 63]; exact u64w ⟨by omega, by omega⟩)) rfl ?_
    refine W_move rfl rfl ?_
    refine W_callp (.cons rfl .nil) Tryd.call84 rfl (T := fun _ => True) trivial (rGran_pure hi8) ?_
    refine W_bin rfl rfl b_lss rfl ?_
    refine W_nil ?_
    refine W_condPS (p := d < 63 * 8 ^ i) rfl (by rw [decide_eq_true_eq]; generalize 8 ^ i = g; omega) (fun q1 => ?_) (fun q1 => ?_)
    · skip
      refine W_sr ?_
      refine W_move rfl rfl ?_
      refine W_assign rfl rfl ?_
      refine W_assign rfl rfl ?_
      refine W_nil ?_
      refine W_ret2m (H2 := H) Tryd.results83 rfl rfl (.nil _) (by repeat (first | with_reducible exact HSub.refl _ | refine HSub.cons (by repeat (first | exact Take.here _ | apply Take.next | apply Take.app)) ?_ | refine HSub.app (by repeat (first | with_reducible exact TakeS.here _ | apply TakeS.next | apply TakeS.app)) ?_ | exact HSub.nil _ | exact HSub.refl _ | refine HSub.drop ?_ | refine HSub.dropS ?_)) ?_
      exact ⟨by rw [lvOf_at hi8 q1 hl], rfl⟩
    · skip
      refine W_skip ?_
      refine W_blk ?_
      refine W_region ?_
      have q1n : 63 * 8 ^ i ≤ d := by omega
      refine W_move rfl rfl ?_
      refine W_bin rfl rfl (b_add (m := ((i + 1 : Nat) : Int)) ((i64w (by omega)).trans (by omega))) rfl ?_
      refine W_assign rfl rfl ?_
      refine W_nil ?_
      refine W_again (i + 1) ⟨by omega, fun j hj => by by_cases e : j = i; exact e ▸ q1n; exact hl j (by omega)⟩ (by omega) (sub_cons rfl (sub_cons rfl (sub_nil _))) rfl (by repeat (first | with_reducible exact HSub.refl _ | refine HSub.cons (by repeat (first | exact Take.here _ | apply Take.next | apply Take.app)) ?_ | refine HSub.app (by repeat (first | with_reducible exact TakeS.here _ | apply TakeS.next | apply TakeS.app)) ?_ | exact HSub.nil _ | exact HSub.refl _ | refine HSub.drop ?_ | refine HSub.dropS ?_))
  · skip
    refine W_exit rfl ?_
    refine W_sr ?_
    refine W_assign rfl rfl ?_
    refine W_assign rfl rfl ?_
    refine W_nil ?_
    refine W_ret2m (H2 := H) Tryd.results83 rfl rfl (.nil _) (by repeat (first | with_reducible exact HSub.refl _ | refine HSub.cons (by repeat (first | exact Take.here _ | apply Take.next | apply Take.app)) ?_ | refine HSub.app (by repeat (first | with_reducible exact TakeS.here _ | apply TakeS.next | apply TakeS.app)) ?_ | exact HSub.nil _ | exact HSub.refl _ | refine HSub.drop ?_ | refine HSub.dropS ?_)) ?_
    obtain rfl : i = 8 := by omega
    exact ⟨by rw [lvOf_no hl]; rfl, rfl⟩
set_option maxHeartbeats 1000000 in
theorem rMul_pure {x n : Nat} (hn : n < 8) (hx : x ≤ 18446744073709551615) : Pure Tryd.prog (fun _ => True) 85 [.int .u64 ((x : Nat) : Int), .int .u64 ((8 ^ n : Nat) : Int)] (.int .u64 ((tickT x n : Nat) : Int)) := by
  intro w0 H hT
  have hp := pow8 hn
  refine L_enter Tryd.func85 rfl Tryd.ntmps85 rfl rfl ?_
  refine W_sr ?_
  refine W_assign rfl rfl ?_
  refine W_nil ?_
  refine W_seq ?_
  refine W_sr ?_
  refine W_move rfl rfl ?_
  refine W_move rfl rfl ?_
  refine W_bin rfl rfl (b_quo (by omega) (m := ((18446744073709551615 / 8 ^ n : Nat) : Int)) (by rw [show ((18446744073709551615 : Int)).tdiv ((8 ^ n : Nat) : Int) = ((18446744073709551615 / 8 ^ n : Nat) : Int) from tdN 18446744073709551615 _]; have := Nat.div_le_self 18446744073709551615 (8 ^ n); generalize 18446744073709551615 / 8 ^ n = y at *; exact u64w ⟨by omega, by omega⟩)) rfl ?_
  refine W_bin rfl rfl b_gtr rfl ?_
  refine W_nil ?_
  refine W_condPS (p := 18446744073709551615 / 8 ^ n < x) rfl (by rw [decide_eq_true_eq]; exact Int.ofNat_lt) (fun q0 => ?_) (fun q0 => ?_)
  · skip
    refine W_sr ?_
    refine W_assign rfl rfl ?_
    refine W_nil ?_
    refine W_ret1m (H2 := H) Tryd.results85 rfl (.nil _) (by repeat (first | with_reducible exact HSub.refl _ | refine HSub.cons (by repeat (first | exact Take.here _ | apply Take.next | apply Take.app)) ?_ | refine HSub.app (by repeat (first | with_reducible exact TakeS.here _ | apply TakeS.next | apply TakeS.app)) ?_ | exact HSub.nil _ | exact HSub.refl _ | refine HSub.drop ?_ | refine HSub.dropS ?_)) ?_
    exact ⟨by rw [show tickT x n = 18446744073709551615 from if_pos q0]; rfl, rfl⟩
  · skip
    refine W_skip ?_
    refine W_sr ?_
    refine W_move rfl rfl ?_
    refine W_move rfl rfl ?_
    have hle := tickT_le x n
    have htk : tickT x n = x * 8 ^ n := if_neg q0
    rw [htk] at hle
    refine W_bin rfl rfl (b_mul (m := ((x * 8 ^ n : Nat) : Int)) (by rw [← Int.natCast_mul]; generalize x * 8 ^ n = y at *; exact u64w ⟨by omega, by omega⟩)) rfl ?_
    refine W_assign rfl rfl ?_
    refine W_nil ?_
    refine W_ret1m (H2 := H) Tryd.results85 rfl (.nil _) (by repeat (first | with_reducible exact HSub.refl _ | refine HSub.cons (by repeat (first | exact Take.here _ | apply Take.next | apply Take.app)) ?_ | refine HSub.app (by repeat (first | with_reducible exact TakeS.here _ | apply TakeS.next | apply TakeS.app)) ?_ | exact HSub.nil _ | exact HSub.refl _ | refine HSub.drop ?_ | refine HSub.dropS ?_)) ?_
    exact ⟨by rw [htk], rfl⟩
theorem ceil_mod {t n : Nat} : 0 < t % 8 ^ n ↔ t / 8 ^ n * 8 ^ n ≠ t := by
  have h1 := Nat.div_add_mod t (8 ^ n)
  rw [Nat.mul_comm] at h1
  omega
theorem ceil_le {t n : Nat} (h : t ≤ 18446744073709551615) : ceilT t n ≤ 18446744073709551615 := by
  unfold ceilT
  split
  · rename_i hc
    have h0 := Nat.div_le_self t (8 ^ n)
    by_cases e : t / 8 ^ n = t
    · exfalso
      have hg : 0 < 8 ^ n := Nat.pow_pos (by omega)
      have h1 := Nat.div_mul_le_self t (8 ^ n)
      rw [e] at h1 hc
      have h2 : t * 1 ≤ t * 8 ^ n := Nat.mul_le_mul_left t hg
      omega
    · omega
  · exact Nat.le_trans (Nat.div_le_self _ _) h
set_option maxHeartbeats 1000000 in
theorem rPlace_pure {a b : Nat} (ha : a ≤ 18446744073709551615) (hb : b ≤ 18446744073709551615) : Pure Tryd.prog (fun _ => True) 65 [.int .u64 ((a : Nat) : Int), .int .u64 ((b : Nat) : Int)] (.tuple #[.agg (placeT a b).1.v.toArray, .int .i64 (placeT a b).2]) := by
  intro w0 H hT
  refine L_enter Tryd.func65 rfl Tryd.ntmps65 rfl rfl ?_
  refine W_sr ?_
  refine W_alloc (l := zSpot.v) ty65 rfl rfl (fun b4 => ?_)
  refine W_assign rfl rfl ?_
  refine W_nil ?_
  refine W_seq ?_
  refine W_sr ?_
  refine W_move rfl rfl ?_
  refine W_bin rfl rfl b_eql rfl ?_
  refine W_nil ?_
  refine W_condPS (p := a = 18446744073709551615) rfl (by rw [decide_eq_true_eq]; exact Int.ofNat_inj) (fun q0 => ?_) (fun q0 => ?_)
  · skip
    refine W_sr ?_
    refine W_build ty65 pl65 .nil rfl (by simp only [fillL, spliceL, Value.cells, List.take_zero, List.take_succ_cons, List.take_nil, List.drop_zero, List.drop_succ_cons, List.drop_nil, List.nil_append, List.cons_append, List.append_nil, List.length_cons, List.length_nil, Nat.zero_add, Nat.reduceAdd, List.toList_toArray]; rfl) rfl ?_
    refine W_storeA (l' := zSpot.v) rfl rfl ty65 rfl rfl (b := b4) (by repeat (first | exact List.mem_cons_self | apply List.mem_cons_of_mem | apply List.mem_append_right)) (by exact Nat.le_refl 4) rfl (by repeat (first | exact Upd.head _ | apply Upd.tail | apply Upd.app)) ?_
    refine W_assign rfl rfl ?_
    refine W_nil ?_
    refine W_ret2G (H2 := H) Tryd.results65 (.nil _) (.own rfl ty65 rfl (by repeat (first | exact List.mem_cons_self | apply List.mem_cons_of_mem | apply List.mem_append_right)) rfl) (.tmp rfl) (by repeat (first | with_reducible exact HSub.refl _ | refine HSub.cons (by repeat (first | exact Take.here _ | apply Take.next | apply Take.app)) ?_ | refine HSub.app (by repeat (first | with_reducible exact TakeS.here _ | apply TakeS.next | apply TakeS.app)) ?_ | exact HSub.nil _ | exact HSub.refl _ | refine HSub.drop ?_ | refine HSub.dropS ?_)) ?_
    exact ⟨by unfold placeT; rw [if_pos q0], rfl⟩
  · skip
    refine W_skip ?_
    refine W_sr ?_
    refine W_move rfl rfl ?_
    refine W_move rfl rfl ?_
    refine W_callp (.cons rfl (.cons rfl (.cons rfl .nil))) Tryd.call82 rfl (T := fun _ => True) trivial (rClamp_pure (h := 132120575) ha hb (by omega)) ?_
    obtain ⟨t, ht⟩ : ∃ t, t = clampT a b 132120575 := ⟨_, rfl⟩
    rw [← ht]
    have ht1 : t ≤ 18446744073709551615 := ht ▸ clampT_le _ _ _
    have ht2 : a ≤ t := ht ▸ clampT_ge ha _ _
    refine W_assign rfl rfl ?_
    refine W_nil ?_
    refine W_sr ?_
    refine W_move rfl rfl ?_
    refine W_move rfl rfl ?_
    refine W_bin rfl rfl (b_sub (m := ((t - a : Nat) : Int)) (by rw [u64w ⟨by omega, by omega⟩]; omega)) rfl ?_
    refine W_callp (.cons rfl .nil) Tryd.call83 rfl (T := fun _ => True) trivial (rOf_pure (d := t - a) (by omega)) ?_
    obtain ⟨n, hn⟩ : ∃ n, n = (lvOf (t - a)).1 := ⟨_, rfl⟩
    rw [← hn]
    have hn8 : n < 8 := hn ▸ lvOf_lt _
    have hp8 := pow8 hn8
    have hcu := ceil_le ht1 (n := n)
    refine W_move rfl rfl ?_
    refine W_extract rfl rfl rfl ?_
    refine W_extract rfl rfl rfl ?_
    refine W_assign rfl rfl ?_
    refine W_assign rfl rfl ?_
    refine W_nil ?_
    refine W_sr ?_
    refine W_move rfl rfl ?_
    refine W_callp (.cons rfl .nil) Tryd.call84 rfl (T := fun _ => True) trivial (rGran_pure hn8) ?_
    refine W_assign rfl rfl ?_
    refine W_nil ?_
    refine W_sr ?_
    refine W_move rfl rfl ?_
    refine W_move rfl rfl ?_
    refine W_bin rfl rfl (b_quo (by omega) (m := ((t / 8 ^ n : Nat) : Int)) (by rw [tdN]; have := Nat.div_le_self t (8 ^ n); generalize t / 8 ^ n = y at *; exact u64w ⟨by omega, by omega⟩)) rfl ?_
    refine W_assign rfl rfl ?_
    refine W_nil ?_
    refine W_seq ?_
    refine W_sr ?_
    refine W_move rfl rfl ?_
    refine W_move rfl rfl ?_
    refine W_bin rfl rfl (b_rem (by omega) (m := ((t % 8 ^ n : Nat) : Int)) (tmN _ _)) rfl ?_
    refine W_bin rfl rfl b_gtr rfl ?_
    refine W_nil ?_
    refine W_condPS (p := 0 < t % 8 ^ n) rfl (by rw [decide_eq_true_eq]; exact Int.ofNat_lt) (fun q1 => ?_) (fun q1 => ?_)
    · skip
      refine W_region ?_
      refine W_move rfl rfl ?_
      have hce : ceilT t n = t / 8 ^ n + 1 := if_pos (ceil_mod.1 q1)
      refine W_bin rfl rfl (b_add (m := ((ceilT t n : Nat) : Int)) (by rw [hce] at hcu ⊢; generalize t / 8 ^ n = y at *; rw [u64w ⟨by omega, by omega⟩]; omega)) rfl ?_
      refine W_assign rfl rfl ?_
      refine W_nil ?_
      refine W_sr ?_
      refine W_move rfl rfl ?_
      refine W_move rfl rfl ?_
      refine W_bin rfl rfl (b_rem (by decide) (m := ((ceilT t n % 64 : Nat) : Int)) (tmN _ 64)) rfl ?_
      refine W_conv rfl ty22 ty3 (i64w (by omega)) rfl ?_
      refine W_move rfl rfl ?_
      refine W_move rfl rfl ?_
      refine W_move rfl rfl ?_
      refine W_callp (.cons rfl (.cons rfl .nil)) Tryd.call85 rfl (T := fun _ => True) trivial (rMul_pure (x := ceilT t n) hn8 hcu) ?_
      refine W_build (l := [.int .i64 (n : Int), .int .i64 ((ceilT t n % 64 : Nat) : Int), .int .u64 (t : Int), .int .u64 ((tickT (ceilT t n) n : Nat) : Int)]) ty65 pl65 (.cons rfl rfl rfl rfl rfl (.cons rfl rfl rfl rfl rfl (.cons rfl rfl rfl rfl rfl (.cons rfl rfl rfl rfl rfl .nil)))) rfl rfl rfl ?_
      refine W_storeA (l' := [.int .i64 (n : Int), .int .i64 ((ceilT t n % 64 : Nat) : Int), .int .u64 (t : Int), .int .u64 ((tickT (ceilT t n) n : Nat) : Int)]) rfl rfl ty65 rfl rfl (b := b4) (by repeat (first | exact List.mem_cons_self | apply List.mem_cons_of_mem | apply List.mem_append_right)) (by exact Nat.le_refl 4) rfl (by repeat (first | exact Upd.head _ | apply Upd.tail | apply Upd.app)) ?_
      refine W_assign rfl rfl ?_
      refine W_nil ?_
      refine W_ret2G (H2 := H) Tryd.results65 (.nil _) (.own rfl ty65 rfl (by repeat (first | exact List.mem_cons_self | apply List.mem_cons_of_mem | apply List.mem_append_right)) rfl) (.tmp rfl) (by repeat (first | with_reducible exact HSub.refl _ | refine HSub.cons (by repeat (first | exact Take.here _ | apply Take.next | apply Take.app)) ?_ | refine HSub.app (by repeat (first | with_reducible exact TakeS.here _ | apply TakeS.next | apply TakeS.app)) ?_ | exact HSub.nil _ | exact HSub.refl _ | refine HSub.drop ?_ | refine HSub.dropS ?_)) ?_
      exact ⟨by unfold placeT; rw [if_neg q0]; dsimp only; rw [← ht, ← hn]; rfl, rfl⟩
    · skip
      refine W_skip ?_
      refine W_sr ?_
      have hce : ceilT t n = t / 8 ^ n := if_neg (fun h => q1 (ceil_mod.2 h))
      rw [← hce]
      refine W_move rfl rfl ?_
      refine W_move rfl rfl ?_
      refine W_bin rfl rfl (b_rem (by decide) (m := ((ceilT t n % 64 : Nat) : Int)) (tmN _ 64)) rfl ?_
      refine W_conv rfl ty22 ty3 (i64w (by omega)) rfl ?_
      refine W_move rfl rfl ?_
      refine W_move rfl rfl ?_
      refine W_move rfl rfl ?_
      refine W_callp (.cons rfl (.cons rfl .nil)) Tryd.call85 rfl (T := fun _ => True) trivial (rMul_pure (x := ceilT t n) hn8 hcu) ?_
      refine W_build (l := [.int .i64 (n : Int), .int .i64 ((ceilT t n % 64 : Nat) : Int), .int .u64 (t : Int), .int .u64 ((tickT (ceilT t n) n : Nat) : Int)]) ty65 pl65 (.cons rfl rfl rfl rfl rfl (.cons rfl rfl rfl rfl rfl (.cons rfl rfl rfl rfl rfl (.cons rfl rfl rfl rfl rfl .nil)))) rfl rfl rfl ?_
      refine W_storeA (l' := [.int .i64 (n : Int), .int .i64 ((ceilT t n % 64 : Nat) : Int), .int .u64 (t : Int), .int .u64 ((tickT (ceilT t n) n : Nat) : Int)]) rfl rfl ty65 rfl rfl (b := b4) (by repeat (first | exact List.mem_cons_self | apply List.mem_cons_of_mem | apply List.mem_append_right)) (by exact Nat.le_refl 4) rfl (by repeat (first | exact Upd.head _ | apply Upd.tail | apply Upd.app)) ?_
      refine W_assign rfl rfl ?_
      refine W_nil ?_
      refine W_ret2G (H2 := H) Tryd.results65 (.nil _) (.own rfl ty65 rfl (by repeat (first | exact List.mem_cons_self | apply List.mem_cons_of_mem | apply List.mem_append_right)) rfl) (.tmp rfl) (by repeat (first | with_reducible exact HSub.refl _ | refine HSub.cons (by repeat (first | exact Take.here _ | apply Take.next | apply Take.app)) ?_ | refine HSub.app (by repeat (first | with_reducible exact TakeS.here _ | apply TakeS.next | apply TakeS.app)) ?_ | exact HSub.nil _ | exact HSub.refl _ | refine HSub.drop ?_ | refine HSub.dropS ?_)) ?_
      exact ⟨by unfold placeT; rw [if_neg q0]; dsimp only; rw [← ht, ← hn]; rfl, rfl⟩
end Go.Proofs.YtknbohnoiigioaaDoor
namespace Go.Proofs.YtknbohnoiigioaaDoor
open Go Go.Sl
attribute [local irreducible] W
/-- a timer's cells in the document's wheel -/
def tmC (t : Tm) : List Value := .int .i64 t.id :: t.s.v
abbrev rowT (L : List Tm) : List Value := L.flatMap tmC
theorem tmC_len (t : Tm) : (tmC t).length = 5 := rfl
theorem rowT_len (L : List Tm) : (rowT L).length = L.length * 5 := flat_length tmC_len L
theorem rowT_one (L : List Tm) : (rowT L).all Value.oneCell' = true := by
  rw [List.all_flatMap, List.all_eq_true]; exact fun t _ => rfl
theorem rowT_app (L M : List Tm) : rowT (L ++ M) = rowT L ++ rowT M := List.flatMap_append
theorem rowT_drop (L : List Tm) : ∀ k, (rowT L).drop (k * 5) = rowT (L.drop k) := by
  induction L with
  | nil => intro k; simp [rowT]
  | cons t L ih =>
    intro k
    cases k with
    | zero => rw [Nat.zero_mul]; rfl
    | succ k =>
      have e : rowT (t :: L) = tmC t ++ rowT L := rfl
      rw [e, List.drop_succ_cons, ← ih k, show (k + 1) * 5 = (tmC t).length + k * 5 by rw [tmC_len]; omega, List.drop_append]
      simp
theorem rowT_take (L : List Tm) (k : Nat) : (rowT L).take (k * 5) = rowT (L.take k) := Go.Sl.flat_take tmC_len L k
theorem delT_at : ∀ {L : List Tm} {i : Nat} {t : Tm}, (L.map (·.id)).Nodup → L[i]? = some t → delT L t.id = L.take i ++ L.drop (i + 1)
  | x :: L, 0, t, hn, h => by
    obtain rfl : x = t := by simpa using h
    rw [List.map_cons, List.nodup_cons] at hn
    show List.filter _ (x :: L) = L
    rw [List.filter_cons_of_neg (by simp)]
    exact delT_out hn.1
  | x :: L, i + 1, t, hn, h => by
    rw [List.map_cons, List.nodup_cons] at hn
    have ht : L[i]? = some t := by simpa using h
    have hne : x.id ≠ t.id := fun e => hn.1 (e ▸ List.mem_map_of_mem (List.mem_of_getElem? ht))
    show List.filter _ (x :: L) = _
    rw [List.filter_cons_of_pos (by simpa using hne)]
    have ih := delT_at hn.2 ht
    unfold delT at ih
    rw [ih]; rfl
/-- where a timer stands in a list -/
def AtT (L : List Tm) (id z : Int) : Prop := (∃ (i : Nat) (t : Tm), z = (i : Int) ∧ L[i]? = some t ∧ t.id = id) ∨ (z = -1 ∧ id ∉ L.map (·.id))
theorem AtT.held {L : List Tm} {id z : Int} (h : AtT L id z) : (0 ≤ z ↔ id ∈ L.map (·.id)) := by
  rcases h with ⟨i, t, rfl, h1, rfl⟩ | ⟨rfl, h1⟩
  · exact ⟨fun _ => List.mem_map_of_mem (List.mem_of_getElem? h1), fun _ => by omega⟩
  · exact ⟨fun h => by omega, fun h => absurd h h1⟩
set_option maxHeartbeats 1000000 in
theorem rFind_L {w0 : World} {H : Heap} {now cap : Nat} {L : List Tm} {ad : Option Addr} (hl : L.length ≤ 1000000) (hrow : Holds w0 H ad (rowT L)) {id : Int}  : LCalls Tryd.prog w0 39 #[.agg (List.toArray [.int .u64 ((now : Nat) : Int), .slice ad L.length cap]), .int .i64 id] (H) (fun v H' => ∃ z : Int, v = .int .i64 z ∧ AtT L id z ∧ H' = H) := by
  refine L_enter (l := [.agg (List.toArray [.int .u64 ((now : Nat) : Int), .slice ad L.length cap]), .int .i64 id]) Tryd.func39 rfl Tryd.ntmps39 rfl rfl ?_
  refine W_sr ?_
  refine W_box (l := [.int .u64 ((now : Nat) : Int), .slice ad L.length cap]) rfl rfl rfl (fun b2 => ?_)
  refine W_assign rfl rfl ?_
  refine W_nil ?_
  refine W_seq ?_
  refine W_sr ?_
  refine W_assign rfl rfl ?_
  refine W_nil ?_
  refine W_block ?_
  refine W_loopC (X := Nat) [(1, _), (2, _)] (fun (i : Nat) => [(5, .int .i64 (i : Int))]) (fun _ => _) (fun (i : Nat) => (b2, .cells 80 2 [.int .u64 ((now : Nat) : Int), .slice ad L.length cap]) :: H) (fun (i : Nat) => i ≤ L.length ∧ id ∉ (L.take i).map (·.id)) (fun (i : Nat) => L.length - i) 0 ⟨Nat.zero_le _, by simp⟩ (sub_cons rfl (sub_cons rfl (sub_nil _))) (sub_cons rfl (sub_nil _)) rfl (by repeat (first | with_reducible exact HSub.refl _ | refine HSub.cons (by repeat (first | exact Take.here _ | apply Take.next | apply Take.app)) ?_ | refine HSub.app (by repeat (first | with_reducible exact TakeS.here _ | apply TakeS.next | apply TakeS.app)) ?_ | exact HSub.nil _ | exact HSub.refl _ | refine HSub.drop ?_ | refine HSub.dropS ?_)) ?_
  rintro i ⟨hi, hn⟩
  simp only [List.cons_append, List.nil_append]
  refine W_seq ?_
  refine W_sr ?_
  refine W_move rfl rfl ?_
  refine W_fieldAddr rfl fld80_1 (by decide) rfl ?_
  refine W_load rfl ty78 rfl (Cell.own (by repeat (first | exact List.mem_cons_self | apply List.mem_cons_of_mem | apply List.mem_append_right)) rfl) rfl ?_
  refine W_len rfl ty78 rfl rfl ?_
  refine W_bin rfl rfl b_lss rfl ?_
  refine W_nil ?_
  refine W_condPS (p := (i : Int) < (L.length : Int)) rfl (by simp) (fun q0 => ?_) (fun q0 => ?_)
  · skip
    refine W_skip ?_
    refine W_seq ?_
    refine W_block ?_
    refine W_sr ?_
    obtain ⟨t, ht⟩ : ∃ t, L[i]? = some t := ⟨_, List.getElem?_eq_getElem (by omega)⟩
    obtain ⟨q0_, p0_, rfl, hc⟩ := Holds.row tmC_len (by decide) hrow ht
    refine W_fieldAddr rfl fld80_1 (by decide) rfl ?_
    refine W_load rfl ty78 rfl (Cell.own (by repeat (first | exact List.mem_cons_self | apply List.mem_cons_of_mem | apply List.mem_append_right)) rfl) rfl ?_
    refine W_move rfl rfl ?_
    refine W_indexAddr (j := i) rfl rfl ty78 ty77 rfl (by omega) rfl rfl ?_
    refine W_fieldAddr rfl fld77_0 (by decide) rfl ?_
    refine W_load (v := .int .i64 t.id) rfl ty3 rfl ((hc 0 (.int .i64 t.id) rfl).up (by repeat (first | with_reducible exact HSub.refl _ | refine HSub.cons (by repeat (first | exact Take.here _ | apply Take.next | apply Take.app)) ?_ | refine HSub.app (by repeat (first | with_reducible exact TakeS.here _ | apply TakeS.next | apply TakeS.app)) ?_ | exact HSub.nil _ | exact HSub.refl _ | refine HSub.drop ?_ | refine HSub.dropS ?_))) rfl ?_
    refine W_move rfl rfl ?_
    refine W_bin rfl rfl b_eql rfl ?_
    refine W_nil ?_
    refine W_condPS (p := t.id = id) rfl (by simp) (fun q1 => ?_) (fun q1 => ?_)
    · skip
      refine W_sr ?_
      refine W_move rfl rfl ?_
      refine W_assign rfl rfl ?_
      refine W_nil ?_
      refine W_ret1m (H2 := H) Tryd.results39 rfl (.nil _) (by repeat (first | with_reducible exact HSub.refl _ | refine HSub.cons (by repeat (first | exact Take.here _ | apply Take.next | apply Take.app)) ?_ | refine HSub.app (by repeat (first | with_reducible exact TakeS.here _ | apply TakeS.next | apply TakeS.app)) ?_ | exact HSub.nil _ | exact HSub.refl _ | refine HSub.drop ?_ | refine HSub.dropS ?_)) ?_
      exact ⟨i, rfl, .inl ⟨i, t, rfl, ht, q1⟩, rfl⟩
    · skip
      refine W_skip ?_
      refine W_blk ?_
      refine W_region ?_
      refine W_move rfl rfl ?_
      refine W_bin rfl rfl (b_add (m := ((i + 1 : Nat) : Int)) ((i64w (by omega)).trans (by omega))) rfl ?_
      refine W_assign rfl rfl ?_
      refine W_nil ?_
      refine W_again (i + 1) ⟨by omega, by rw [takeAt ht, List.map_append, List.mem_append]; exact fun h => h.elim hn (fun h => q1 (List.mem_singleton.1 h).symm)⟩ (by omega) (sub_cons rfl (sub_cons rfl (sub_cons rfl (sub_nil _)))) rfl (by repeat (first | with_reducible exact HSub.refl _ | refine HSub.cons (by repeat (first | exact Take.here _ | apply Take.next | apply Take.app)) ?_ | refine HSub.app (by repeat (first | with_reducible exact TakeS.here _ | apply TakeS.next | apply TakeS.app)) ?_ | exact HSub.nil _ | exact HSub.refl _ | refine HSub.drop ?_ | refine HSub.dropS ?_))
  · skip
    refine W_exit rfl ?_
    refine W_sr ?_
    refine W_assign rfl rfl ?_
    refine W_nil ?_
    refine W_ret1m (H2 := H) Tryd.results39 rfl (.nil _) (by repeat (first | with_reducible exact HSub.refl _ | refine HSub.cons (by repeat (first | exact Take.here _ | apply Take.next | apply Take.app)) ?_ | refine HSub.app (by repeat (first | with_reducible exact TakeS.here _ | apply TakeS.next | apply TakeS.app)) ?_ | exact HSub.nil _ | exact HSub.refl _ | refine HSub.drop ?_ | refine HSub.dropS ?_)) ?_
    obtain rfl : i = L.length := by omega
    exact ⟨-1, rfl, .inr ⟨rfl, by rwa [List.take_length] at hn⟩, rfl⟩
/-- the first of those that are due first -/
def BestT (L : List Tm) (z : Int) : Prop := (z = -1 ∧ L = []) ∨ ∃ (i : Nat) (t : Tm), z = (i : Int) ∧ L[i]? = some t ∧ (∀ u ∈ L, t.s.due ≤ u.s.due) ∧ ∀ (j : Nat) u, j < i → L[j]? = some u → t.s.due < u.s.due
def bestV (i b : Nat) : Int := if i = 0 then -1 else (b : Int)
def BestI (L : List Tm) (i b : Nat) : Prop := i = 0 ∨ (b < i ∧ ∃ t, L[b]? = some t ∧ ∀ (j : Nat) u, j < i → L[j]? = some u → t.s.due ≤ u.s.due ∧ (j < b → t.s.due < u.s.due))
theorem BestI.done {L : List Tm} {b : Nat} (h : BestI L L.length b) : BestT L (bestV L.length b) := by
  rcases h with h | ⟨h1, t, h2, h3⟩
  · exact .inl ⟨if_pos h, List.eq_nil_of_length_eq_zero h⟩
  · refine .inr ⟨b, t, if_neg (by omega), h2, fun u hu => ?_, fun j u hj hu => (h3 j u (by omega) hu).2 hj⟩
    obtain ⟨j, hj, e⟩ := List.getElem_of_mem hu
    exact (h3 j u hj (by rw [List.getElem?_eq_getElem hj, e])).1
theorem BestI.first {L : List Tm} {t : Tm} (h : L[0]? = some t) : BestI L 1 0 := .inr ⟨by omega, t, h, fun j u hj hu => by
  obtain rfl : j = 0 := by omega
  rw [h] at hu
  obtain rfl := Option.some.inj hu
  exact ⟨Nat.le_refl _, fun h => by omega⟩⟩
theorem BestI.keep {L : List Tm} {i b : Nat} {t u : Tm} (h : BestI L i b) (h0 : i ≠ 0) (hb : L[b]? = some t) (hi : L[i]? = some u) (hc : ¬ u.s.due < t.s.due) : BestI L (i + 1) b := by
  rcases h with h | ⟨h1, t', h2, h3⟩
  · exact absurd h h0
  · obtain rfl : t = t' := Option.some.inj (hb.symm.trans h2)
    refine .inr ⟨by omega, t, h2, fun j x hj hx => ?_⟩
    by_cases e : j = i
    · subst e
      rw [hi] at hx
      obtain rfl := Option.some.inj hx
      exact ⟨by omega, fun h => by omega⟩
    · exact h3 j x (by omega) hx
theorem BestI.turn {L : List Tm} {i b : Nat} {t u : Tm} (h : BestI L i b) (h0 : i ≠ 0) (hb : L[b]? = some t) (hi : L[i]? = some u) (hc : u.s.due < t.s.due) : BestI L (i + 1) i := by
  rcases h with h | ⟨h1, t', h2, h3⟩
  · exact absurd h h0
  · obtain rfl : t = t' := Option.some.inj (hb.symm.trans h2)
    refine .inr ⟨by omega, u, hi, fun j x hj hx => ?_⟩
    by_cases e : j = i
    · subst e
      rw [hi] at hx
      obtain rfl := Option.some.inj hx
      exact ⟨Nat.le_refl _, fun h => by omega⟩
    · have := (h3 j x (by omega) hx).1
      exact ⟨by omega, fun _ => by omega⟩
set_option maxHeartbeats 1000000 in
theorem rNext_L {w0 : World} {H : Heap} {now cap : Nat} {L : List Tm} {ad : Option Addr} (hl : L.length ≤ 1000000) (hrow : Holds w0 H ad (rowT L))  : LCalls Tryd.prog w0 48 #[.agg (List.toArray [.int .u64 ((now : Nat) : Int), .slice ad L.length cap])] (H) (fun v H' => ∃ z : Int, v = .int .i64 z ∧ BestT L z ∧ H' = H) := by
  refine L_enter (l := [.agg (List.toArray [.int .u64 ((now : Nat) : Int), .slice ad L.length cap])]) Tryd.func48 rfl Tryd.ntmps48 rfl rfl ?_
  refine W_sr ?_
  refine W_box (l := [.int .u64 ((now : Nat) : Int), .slice ad L.length cap]) rfl rfl rfl (fun b1 => ?_)
  refine W_assign rfl rfl ?_
  refine W_nil ?_
  refine W_sr ?_
  refine W_assign rfl rfl ?_
  refine W_nil ?_
  refine W_seq ?_
  refine W_sr ?_
  refine W_assign rfl rfl ?_
  refine W_nil ?_
  refine W_block ?_
  refine W_loopC (X := (Nat × Nat)) [(1, _)] (fun (x : (Nat × Nat)) => [(3, .int .i64 (bestV x.1 x.2)), (4, .int .i64 (x.1 : Int))]) (fun _ => _) (fun (x : (Nat × Nat)) => (b1, .cells 80 2 [.int .u64 ((now : Nat) : Int), .slice ad L.length cap]) :: H) (fun (x : (Nat × Nat)) => x.1 ≤ L.length ∧ BestI L x.1 x.2) (fun (x : (Nat × Nat)) => L.length - x.1) (0, 0) ⟨Nat.zero_le _, .inl rfl⟩ (sub_cons rfl (sub_nil _)) (sub_cons rfl (sub_cons rfl (sub_nil _))) rfl (by repeat (first | with_reducible exact HSub.refl _ | refine HSub.cons (by repeat (first | exact Take.here _ | apply Take.next | apply Take.app)) ?_ | refine HSub.app (by repeat (first | with_reducible exact TakeS.here _ | apply TakeS.next | apply TakeS.app)) ?_ | exact HSub.nil _ | exact HSub.refl _ | refine HSub.drop ?_ | refine HSub.dropS ?_)) ?_
  rintro ⟨i, b⟩ ⟨hi, hB⟩
  dsimp only at hi hB ⊢
  simp only [List.cons_append, List.nil_append]
  refine W_seq ?_
  refine W_sr ?_
  refine W_move rfl rfl ?_
  refine W_fieldAddr rfl fld80_1 (by decide) rfl ?_
  refine W_load rfl ty78 rfl (Cell.own (by repeat (first | exact List.mem_cons_self | apply List.mem_cons_of_mem | apply List.mem_append_right)) rfl) rfl ?_
  refine W_len rfl ty78 rfl rfl ?_
  refine W_bin rfl rfl b_lss rfl ?_
  refine W_nil ?_
  refine W_condPS (p := (i : Int) < (L.length : Int)) rfl (by simp) (fun q0 => ?_) (fun q0 => ?_)
  · skip
    refine W_skip ?_
    refine W_seq ?_
    refine W_block ?_
    refine W_seq ?_
    obtain ⟨t, ht⟩ : ∃ t, L[i]? = some t := ⟨_, List.getElem?_eq_getElem (by omega)⟩
    obtain ⟨q0_, p0_, rfl, hc⟩ := Holds.row tmC_len (by decide) hrow ht
    by_cases hi0 : i = 0
    · skip
      rw [show bestV i b = -1 from if_pos hi0]
      refine W_quiet (by kernel_rfl) (by decide +kernel) ?_
      refine WQ_x (X_move rfl) rfl ?_
      refine WQ_x (X_bin rfl rfl b_lss) rfl ?_
      first | rw [decide_eq_false (by omega)] | rw [decide_eq_true (by omega)]
      refine WQ_x (X_move rfl) rfl ?_
      refine WQ_gno rfl rfl rfl rfl ?_
      refine WQ_gno rfl rfl rfl rfl ?_
      refine WQ_gno rfl rfl rfl rfl ?_
      refine WQ_gno rfl rfl rfl rfl ?_
      refine WQ_gno rfl rfl rfl rfl ?_
      refine WQ_gno rfl rfl rfl rfl ?_
      refine WQ_gno rfl rfl rfl rfl ?_
      refine WQ_gno rfl rfl rfl rfl ?_
      refine WQ_gno rfl rfl rfl rfl ?_
      refine WQ_gno rfl rfl rfl rfl ?_
      refine WQ_gno rfl rfl rfl rfl ?_
      refine WQ_gno rfl rfl rfl rfl ?_
      refine WQ_gno rfl rfl rfl rfl ?_
      refine WQ_gno rfl rfl rfl rfl ?_
      refine WQ_gno rfl rfl rfl rfl ?_
      first | refine WQ_x (X_pickt rfl rfl) rfl ?_ | refine WQ_x (X_pickf rfl rfl) rfl ?_
      refine WQ_nil ?_
      refine W_condT rfl rfl ?_
      refine W_region ?_
      refine W_move rfl rfl ?_
      refine W_assign rfl rfl ?_
      refine W_nil ?_
      refine W_blk ?_
      refine W_region ?_
      rw [show ((i : Nat) : Int) = 0 from by omega]
      refine W_move rfl rfl ?_
      refine W_bin rfl rfl (b_add (m := ((1 : Nat) : Int)) (by rw [i64w (by omega)]; omega)) rfl ?_
      refine W_assign rfl rfl ?_
      refine W_nil ?_
      refine W_again (1, 0) ⟨by show 1 ≤ L.length; omega, .first (by rw [← hi0]; exact ht)⟩ (by show L.length - 1 < L.length - i; omega) (sub_cons rfl (sub_cons rfl (sub_cons rfl (sub_nil _)))) rfl (by repeat (first | with_reducible exact HSub.refl _ | refine HSub.cons (by repeat (first | exact Take.here _ | apply Take.next | apply Take.app)) ?_ | refine HSub.app (by repeat (first | with_reducible exact TakeS.here _ | apply TakeS.next | apply TakeS.app)) ?_ | exact HSub.nil _ | exact HSub.refl _ | refine HSub.drop ?_ | refine HSub.dropS ?_))
    · skip
      rw [show bestV i b = (b : Int) from if_neg hi0]
      obtain ⟨hbi, tb', htb', _⟩ := hB.resolve_left hi0
      obtain ⟨tb, htb⟩ : ∃ tb, L[b]? = some tb := ⟨_, List.getElem?_eq_getElem (by omega)⟩
      obtain ⟨q1_, p1_, ee, hcb⟩ := Holds.row tmC_len (by decide) hrow htb
      cases ee
      refine W_quiet (by kernel_rfl) (by decide +kernel) ?_
      refine WQ_x (X_move rfl) rfl ?_
      refine WQ_x (X_bin rfl rfl b_lss) rfl ?_
      first | rw [decide_eq_false (by omega)] | rw [decide_eq_true (by omega)]
      refine WQ_x (X_move rfl) rfl ?_
      refine WQ_gyes rfl rfl ?_
      refine WQ_x (X_fieldAddr rfl fld80_1 (by decide)) rfl ?_
      refine WQ_gyes rfl rfl ?_
      refine WQ_x (X_load rfl ty78 rfl (Cell.own (by repeat (first | exact List.mem_cons_self | apply List.mem_cons_of_mem | apply List.mem_append_right)) rfl)) rfl ?_
      refine WQ_gyes rfl rfl ?_
      refine WQ_x (X_move rfl) rfl ?_
      refine WQ_gyes rfl rfl ?_
      refine WQ_x (X_indexAddr (j := i) rfl rfl ty78 ty77 rfl (by omega) rfl) rfl ?_
      refine WQ_gyes rfl rfl ?_
      refine WQ_x (X_fieldAddr rfl fld77_1 (by decide)) rfl ?_
      refine WQ_gyes rfl rfl ?_
      refine WQ_x (X_fieldAddr rfl fld65_3 (by decide)) rfl ?_
      refine WQ_gyes rfl rfl ?_
      refine WQ_x (X_load (v := .int .u64 (t.s.due : Int)) rfl ty22 rfl ((hc 4 (.int .u64 (t.s.due : Int)) rfl).up (by repeat (first | with_reducible exact HSub.refl _ | refine HSub.cons (by repeat (first | exact Take.here _ | apply Take.next | apply Take.app)) ?_ | refine HSub.app (by repeat (first | with_reducible exact TakeS.here _ | apply TakeS.next | apply TakeS.app)) ?_ | exact HSub.nil _ | exact HSub.refl _ | refine HSub.drop ?_ | refine HSub.dropS ?_)))) rfl ?_
      refine WQ_gyes rfl rfl ?_
      refine WQ_x (X_fieldAddr rfl fld80_1 (by decide)) rfl ?_
      refine WQ_gyes rfl rfl ?_
      refine WQ_x (X_load rfl ty78 rfl (Cell.own (by repeat (first | exact List.mem_cons_self | apply List.mem_cons_of_mem | apply List.mem_append_right)) rfl)) rfl ?_
      refine WQ_gyes rfl rfl ?_
      refine WQ_x (X_move rfl) rfl ?_
      refine WQ_gyes rfl rfl ?_
      refine WQ_x (X_indexAddr (j := b) rfl rfl ty78 ty77 rfl (by omega) rfl) rfl ?_
      refine WQ_gyes rfl rfl ?_
      refine WQ_x (X_fieldAddr rfl fld77_1 (by decide)) rfl ?_
      refine WQ_gyes rfl rfl ?_
      refine WQ_x (X_fieldAddr rfl fld65_3 (by decide)) rfl ?_
      refine WQ_gyes rfl rfl ?_
      refine WQ_x (X_load (v := .int .u64 (tb.s.due : Int)) rfl ty22 rfl ((hcb 4 (.int .u64 (tb.s.due : Int)) rfl).up (by repeat (first | with_reducible exact HSub.refl _ | refine HSub.cons (by repeat (first | exact Take.here _ | apply Take.next | apply Take.app)) ?_ | refine HSub.app (by repeat (first | with_reducible exact TakeS.here _ | apply TakeS.next | apply TakeS.app)) ?_ | exact HSub.nil _ | exact HSub.refl _ | refine HSub.drop ?_ | refine HSub.dropS ?_)))) rfl ?_
      refine WQ_gyes rfl rfl ?_
      refine WQ_x (X_bin rfl rfl b_lss) rfl ?_
      first | refine WQ_x (X_pickt rfl rfl) rfl ?_ | refine WQ_x (X_pickf rfl rfl) rfl ?_
      refine WQ_nil ?_
      refine W_condPS (p := t.s.due < tb.s.due) rfl (by rw [decide_eq_true_eq]; exact Int.ofNat_lt) (fun q1 => ?_) (fun q1 => ?_)
      · skip
        refine W_region ?_
        refine W_move rfl rfl ?_
        refine W_assign rfl rfl ?_
        refine W_nil ?_
        refine W_blk ?_
        refine W_region ?_
        refine W_move rfl rfl ?_
        refine W_bin rfl rfl (b_add (m := ((i + 1 : Nat) : Int)) ((i64w (by omega)).trans (by omega))) rfl ?_
        refine W_assign rfl rfl ?_
        refine W_nil ?_
        refine W_again (i + 1, i) ⟨by show i + 1 ≤ L.length; omega, hB.turn hi0 htb ht q1⟩ (by show L.length - (i + 1) < L.length - i; omega) (sub_cons rfl (sub_cons rfl (sub_cons rfl (sub_nil _)))) rfl (by repeat (first | with_reducible exact HSub.refl _ | refine HSub.cons (by repeat (first | exact Take.here _ | apply Take.next | apply Take.app)) ?_ | refine HSub.app (by repeat (first | with_reducible exact TakeS.here _ | apply TakeS.next | apply TakeS.app)) ?_ | exact HSub.nil _ | exact HSub.refl _ | refine HSub.drop ?_ | refine HSub.dropS ?_))
      · skip
        refine W_skip ?_
        refine W_blk ?_
        refine W_region ?_
        refine W_move rfl rfl ?_
        refine W_bin rfl rfl (b_add (m := ((i + 1 : Nat) : Int)) ((i64w (by omega)).trans (by omega))) rfl ?_
        refine W_assign rfl rfl ?_
        refine W_nil ?_
        refine W_again (i + 1, b) ⟨by show i + 1 ≤ L.length; omega, hB.keep hi0 htb ht q1⟩ (by show L.length - (i + 1) < L.length - i; omega) (sub_cons rfl (sub_cons rfl (sub_cons rfl (sub_nil _)))) rfl (by repeat (first | with_reducible exact HSub.refl _ | refine HSub.cons (by repeat (first | exact Take.here _ | apply Take.next | apply Take.app)) ?_ | refine HSub.app (by repeat (first | with_reducible exact TakeS.here _ | apply TakeS.next | apply TakeS.app)) ?_ | exact HSub.nil _ | exact HSub.refl _ | refine HSub.drop ?_ | refine HSub.dropS ?_))
  · skip
    refine W_exit rfl ?_
    refine W_sr ?_
    refine W_move rfl rfl ?_
    refine W_assign rfl rfl ?_
    refine W_nil ?_
    refine W_ret1m (H2 := H) Tryd.results48 rfl (.nil _) (by repeat (first | with_reducible exact HSub.refl _ | refine HSub.cons (by repeat (first | exact Take.here _ | apply Take.next | apply Take.app)) ?_ | refine HSub.app (by repeat (first | with_reducible exact TakeS.here _ | apply TakeS.next | apply TakeS.app)) ?_ | exact HSub.nil _ | exact HSub.refl _ | refine HSub.drop ?_ | refine HSub.dropS ?_)) ?_
    obtain rfl : i = L.length := by omega
    exact ⟨_, rfl, hB.done, rfl⟩
end Go.Proofs.YtknbohnoiigioaaDoor
namespace Go.Proofs.YtknbohnoiigioaaDoor
open Go Go.Sl
attribute [local irreducible] W
set_option maxHeartbeats 1000000 in
theorem rPut_range {w0 : World} {H : Heap} {now cap : Nat} {L : List Tm} {ad : Option Addr} (hl : L.length ≤ 1000000) (hrow : Holds w0 H ad (rowT L)) {id : Int} {a : Nat} (hid : id < 0 ∨ 255 < id)  : PureAt Tryd.prog w0 H 44 [.agg (List.toArray [.int .u64 ((now : Nat) : Int), .slice ad L.length cap]), .int .i64 id, .int .u64 ((a : Nat) : Int)] (.tuple #[.agg (List.toArray [.int .u64 ((now : Nat) : Int), .slice ad L.length cap]), .agg (zSpot.v).toArray, .int .i64 2]) := by
  refine L_enter Tryd.func44 rfl Tryd.ntmps44 rfl rfl ?_
  refine W_sr ?_
  refine W_box (l := [.int .u64 ((now : Nat) : Int), .slice ad L.length cap]) rfl rfl rfl (fun b3 => ?_)
  refine W_alloc (l := [.int .u64 0, .slice none 0 0]) ty80 rfl rfl (fun b6 => ?_)
  refine W_alloc (l := zSpot.v) ty65 rfl rfl (fun b7 => ?_)
  refine W_assign rfl rfl ?_
  refine W_nil ?_
  refine W_seq ?_
  refine W_sr ?_
  refine W_move rfl rfl ?_
  refine W_bin rfl rfl b_lss rfl ?_
  refine W_move rfl rfl ?_
  apply W_or
  iterate 4 exact rfl
  case h1 =>
    intro hg2
    refine W_gyes rfl rfl ?_
    refine W_move rfl rfl ?_
    refine W_gyes rfl rfl ?_
    refine W_bin rfl rfl b_gtr rfl ?_
    exact W_met rfl (by repeat (first | exact .refl | refine .cons rfl ?_))
  refine W_nil ?_
  refine W_condT rfl (by simp; omega) ?_
  refine W_sr ?_
  refine W_loadB (vs := [.int .u64 ((now : Nat) : Int), .slice ad L.length cap]) rfl ty80 rfl (b := b3) (by repeat (first | exact List.mem_cons_self | apply List.mem_cons_of_mem | apply List.mem_append_right)) rfl rfl rfl ?_
  refine W_build ty65 pl65 .nil rfl (by simp only [fillL, spliceL, Value.cells, List.take_zero, List.take_succ_cons, List.take_nil, List.drop_zero, List.drop_succ_cons, List.drop_nil, List.nil_append, List.cons_append, List.append_nil, List.length_cons, List.length_nil, Nat.zero_add, Nat.reduceAdd, List.toList_toArray]; rfl) rfl ?_
  refine W_storeA (l' := [.int .u64 ((now : Nat) : Int), .slice ad L.length cap]) rfl rfl ty80 rfl rfl (b := b6) (by repeat (first | exact List.mem_cons_self | apply List.mem_cons_of_mem | apply List.mem_append_right)) (by exact Nat.le_refl 2) rfl (by repeat (first | exact Upd.head _ | apply Upd.tail | apply Upd.app)) ?_
  refine W_storeA (l' := zSpot.v) rfl rfl ty65 rfl rfl (b := b7) (by repeat (first | exact List.mem_cons_self | apply List.mem_cons_of_mem | apply List.mem_append_right)) (by exact Nat.le_refl 4) rfl (by repeat (first | exact Upd.head _ | apply Upd.tail | apply Upd.app)) ?_
  refine W_assign rfl rfl ?_
  refine W_nil ?_
  refine W_ret3G (H2 := H) Tryd.results44 (.nil _) (.own rfl ty80 rfl (by repeat (first | exact List.mem_cons_self | apply List.mem_cons_of_mem | apply List.mem_append_right)) rfl) (.own rfl ty65 rfl (by repeat (first | exact List.mem_cons_self | apply List.mem_cons_of_mem | apply List.mem_append_right)) rfl) (.tmp rfl) (by repeat (first | with_reducible exact HSub.refl _ | refine HSub.cons (by repeat (first | exact Take.here _ | apply Take.next | apply Take.app)) ?_ | refine HSub.app (by repeat (first | with_reducible exact TakeS.here _ | apply TakeS.next | apply TakeS.app)) ?_ | exact HSub.nil _ | exact HSub.refl _ | refine HSub.drop ?_ | refine HSub.dropS ?_)) ?_
  exact ⟨rfl, rfl⟩
set_option maxHeartbeats 1000000 in
theorem rPut_twice {w0 : World} {H : Heap} {now cap : Nat} {L : List Tm} {ad : Option Addr} (hl : L.length ≤ 1000000) (hrow : Holds w0 H ad (rowT L)) {id : Int} {a : Nat} (hid : 0 ≤ id ∧ id < 256) (hin : id ∈ L.map (·.id))  : PureAt Tryd.prog w0 H 44 [.agg (List.toArray [.int .u64 ((now : Nat) : Int), .slice ad L.length cap]), .int .i64 id, .int .u64 ((a : Nat) : Int)] (.tuple #[.agg (List.toArray [.int .u64 ((now : Nat) : Int), .slice ad L.length cap]), .agg (zSpot.v).toArray, .int .i64 5]) := by
  refine L_enter Tryd.func44 rfl Tryd.ntmps44 rfl rfl ?_
  refine W_sr ?_
  refine W_box (l := [.int .u64 ((now : Nat) : Int), .slice ad L.length cap]) rfl rfl rfl (fun b3 => ?_)
  refine W_alloc (l := [.int .u64 0, .slice none 0 0]) ty80 rfl rfl (fun b6 => ?_)
  refine W_alloc (l := zSpot.v) ty65 rfl rfl (fun b7 => ?_)
  refine W_assign rfl rfl ?_
  refine W_nil ?_
  refine W_seq ?_
  refine W_sr ?_
  refine W_move rfl rfl ?_
  refine W_bin rfl rfl b_lss rfl ?_
  refine W_move rfl rfl ?_
  apply W_or
  iterate 4 exact rfl
  case h1 =>
    intro hg2
    refine W_gyes rfl rfl ?_
    refine W_move rfl rfl ?_
    refine W_gyes rfl rfl ?_
    refine W_bin rfl rfl b_gtr rfl ?_
    exact W_met rfl (by repeat (first | exact .refl | refine .cons rfl ?_))
  refine W_nil ?_
  refine W_condF rfl (by simp; omega) ?_
  refine W_skip ?_
  refine W_seq ?_
  refine W_sr ?_
  refine W_loadB (vs := [.int .u64 ((now : Nat) : Int), .slice ad L.length cap]) rfl ty80 rfl (b := b3) (by repeat (first | exact List.mem_cons_self | apply List.mem_cons_of_mem | apply List.mem_append_right)) rfl rfl rfl ?_
  refine W_move rfl rfl ?_
  refine W_call (.cons rfl (.cons rfl .nil)) Tryd.call39 rfl ((rFind_L (now := now) (cap := cap) (id := id) hl (hrow.up (by repeat (first | with_reducible exact HSub.refl _ | refine HSub.cons (by repeat (first | exact Take.here _ | apply Take.next | apply Take.app)) ?_ | refine HSub.app (by repeat (first | with_reducible exact TakeS.here _ | apply TakeS.next | apply TakeS.app)) ?_ | exact HSub.nil _ | exact HSub.refl _ | refine HSub.drop ?_ | refine HSub.dropS ?_)))).hsub (.refl _)) ?_
  rintro v H' ⟨z, rfl, hz, rfl⟩
  have hzz := hz.held
  refine W_bin rfl rfl b_geq rfl ?_
  refine W_nil ?_
  refine W_condT rfl (by rw [decide_eq_true_eq]; exact hzz.2 hin) ?_
  refine W_sr ?_
  refine W_loadB (vs := [.int .u64 ((now : Nat) : Int), .slice ad L.length cap]) rfl ty80 rfl (b := b3) (by repeat (first | exact List.mem_cons_self | apply List.mem_cons_of_mem | apply List.mem_append_right)) rfl rfl rfl ?_
  refine W_build ty65 pl65 .nil rfl (by simp only [fillL, spliceL, Value.cells, List.take_zero, List.take_succ_cons, List.take_nil, List.drop_zero, List.drop_succ_cons, List.drop_nil, List.nil_append, List.cons_append, List.append_nil, List.length_cons, List.length_nil, Nat.zero_add, Nat.reduceAdd, List.toList_toArray]; rfl) rfl ?_
  refine W_storeA (l' := [.int .u64 ((now : Nat) : Int), .slice ad L.length cap]) rfl rfl ty80 rfl rfl (b := b6) (by repeat (first | exact List.mem_cons_self | apply List.mem_cons_of_mem | apply List.mem_append_right)) (by exact Nat.le_refl 2) rfl (by repeat (first | exact Upd.head _ | apply Upd.tail | apply Upd.app)) ?_
  refine W_storeA (l' := zSpot.v) rfl rfl ty65 rfl rfl (b := b7) (by repeat (first | exact List.mem_cons_self | apply List.mem_cons_of_mem | apply List.mem_append_right)) (by exact Nat.le_refl 4) rfl (by repeat (first | exact Upd.head _ | apply Upd.tail | apply Upd.app)) ?_
  refine W_assign rfl rfl ?_
  refine W_nil ?_
  refine W_ret3G (H2 := H) Tryd.results44 (.nil _) (.own rfl ty80 rfl (by repeat (first | exact List.mem_cons_self | apply List.mem_cons_of_mem | apply List.mem_append_right)) rfl) (.own rfl ty65 rfl (by repeat (first | exact List.mem_cons_self | apply List.mem_cons_of_mem | apply List.mem_append_right)) rfl) (.tmp rfl) (by repeat (first | with_reducible exact HSub.refl _ | refine HSub.cons (by repeat (first | exact Take.here _ | apply Take.next | apply Take.app)) ?_ | refine HSub.app (by repeat (first | with_reducible exact TakeS.here _ | apply TakeS.next | apply TakeS.app)) ?_ | exact HSub.nil _ | exact HSub.refl _ | refine HSub.drop ?_ | refine HSub.dropS ?_)) ?_
  exact ⟨rfl, rfl⟩
set_option maxHeartbeats 1000000 in
theorem rPut_late {w0 : World} {H : Heap} {cap : Nat} {L : List Tm} {ad : Option Addr} (hl : L.length ≤ 1000000) (hrow : Holds w0 H ad (rowT L)) {id : Int} {a : Nat} (hid : 0 ≤ id ∧ id < 256) (ha : a ≤ 18446744073709551615) (hin : id ∉ L.map (·.id))  : PureAt Tryd.prog w0 H 44 [.agg (List.toArray [.int .u64 ((18446744073709551615 : Nat) : Int), .slice ad L.length cap]), .int .i64 id, .int .u64 ((a : Nat) : Int)] (.tuple #[.agg (List.toArray [.int .u64 ((18446744073709551615 : Nat) : Int), .slice ad L.length cap]), .agg (zSpot.v).toArray, .int .i64 12]) := by
  refine L_enter Tryd.func44 rfl Tryd.ntmps44 rfl rfl ?_
  refine W_sr ?_
  refine W_box (l := [.int .u64 ((18446744073709551615 : Nat) : Int), .slice ad L.length cap]) rfl rfl rfl (fun b3 => ?_)
  refine W_alloc (l := [.int .u64 0, .slice none 0 0]) ty80 rfl rfl (fun b6 => ?_)
  refine W_alloc (l := zSpot.v) ty65 rfl rfl (fun b7 => ?_)
  refine W_assign rfl rfl ?_
  refine W_nil ?_
  refine W_seq ?_
  refine W_sr ?_
  refine W_move rfl rfl ?_
  refine W_bin rfl rfl b_lss rfl ?_
  refine W_move rfl rfl ?_
  apply W_or
  iterate 4 exact rfl
  case h1 =>
    intro hg2
    refine W_gyes rfl rfl ?_
    refine W_move rfl rfl ?_
    refine W_gyes rfl rfl ?_
    refine W_bin rfl rfl b_gtr rfl ?_
    exact W_met rfl (by repeat (first | exact .refl | refine .cons rfl ?_))
  refine W_nil ?_
  refine W_condF rfl (by simp; omega) ?_
  refine W_skip ?_
  refine W_seq ?_
  refine W_sr ?_
  refine W_loadB (vs := [.int .u64 ((18446744073709551615 : Nat) : Int), .slice ad L.length cap]) rfl ty80 rfl (b := b3) (by repeat (first | exact List.mem_cons_self | apply List.mem_cons_of_mem | apply List.mem_append_right)) rfl rfl rfl ?_
  refine W_move rfl rfl ?_
  refine W_call (.cons rfl (.cons rfl .nil)) Tryd.call39 rfl ((rFind_L (now := 18446744073709551615) (cap := cap) (id := id) hl (hrow.up (by repeat (first | with_reducible exact HSub.refl _ | refine HSub.cons (by repeat (first | exact Take.here _ | apply Take.next | apply Take.app)) ?_ | refine HSub.app (by repeat (first | with_reducible exact TakeS.here _ | apply TakeS.next | apply TakeS.app)) ?_ | exact HSub.nil _ | exact HSub.refl _ | refine HSub.drop ?_ | refine HSub.dropS ?_)))).hsub (.refl _)) ?_
  rintro v H' ⟨z, rfl, hz, rfl⟩
  have hzz := hz.held
  refine W_bin rfl rfl b_geq rfl ?_
  refine W_nil ?_
  refine W_condF rfl (by rw [decide_eq_false_iff_not]; exact fun h => hin (hzz.1 h)) ?_
  refine W_skip ?_
  refine W_sr ?_
  refine W_fieldAddr rfl fld80_0 (by decide) rfl ?_
  refine W_load rfl ty22 rfl (Cell.own (by repeat (first | exact List.mem_cons_self | apply List.mem_cons_of_mem | apply List.mem_append_right)) rfl) rfl ?_
  refine W_move rfl rfl ?_
  refine W_callp (.cons rfl (.cons rfl .nil)) Tryd.call65 rfl (T := fun _ => True) trivial (rPlace_pure (a := 18446744073709551615) (b := a) (Nat.le_refl _) ha) ?_
  rw [show placeT 18446744073709551615 a = (zSpot, 12) from if_pos rfl]
  refine W_move rfl rfl ?_
  refine W_extract rfl rfl rfl ?_
  refine W_extract rfl rfl rfl ?_
  refine W_alloc (l := zSpot.v) ty65 rfl rfl (fun b9 => ?_)
  refine W_storeA (l' := zSpot.v) rfl rfl ty65 rfl rfl (b := b9) (by repeat (first | exact List.mem_cons_self | apply List.mem_cons_of_mem | apply List.mem_append_right)) (by exact Nat.le_refl 4) rfl (by repeat (first | exact Upd.head _ | apply Upd.tail | apply Upd.app)) ?_
  refine W_assign rfl rfl ?_
  refine W_nil ?_
  refine W_seq ?_
  refine W_sr ?_
  refine W_move rfl rfl ?_
  refine W_bin rfl rfl b_neq rfl ?_
  refine W_nil ?_
  refine W_condT rfl rfl ?_
  refine W_seq ?_
  refine W_anyC [(b3, .cells 80 2 [.int .u64 ((18446744073709551615 : Nat) : Int), .slice ad L.length cap]), (b9, .cells 65 4 zSpot.v)] (by kernel_rfl) ?_
  refine WC_take 0 (l' := #[true, false, false, false, false, false]) rfl (by decide +kernel) (by decide +kernel) (by decide +kernel) rfl (by decide +kernel) (X_loadB (vs := [.int .u64 ((18446744073709551615 : Nat) : Int), .slice ad L.length cap]) rfl ty80 rfl (b := b3) (by repeat (first | exact List.mem_cons_self | apply List.mem_cons_of_mem | apply List.mem_append_right)) rfl rfl) rfl ?_
  refine WC_take 1 (l' := #[true, true, false, false, false, false]) rfl (by decide +kernel) (by decide +kernel) (by decide +kernel) rfl (by decide +kernel) (X_loadB (vs := zSpot.v) rfl ty65 rfl (b := b9) (by repeat (first | exact List.mem_cons_self | apply List.mem_cons_of_mem | apply List.mem_append_right)) rfl rfl) rfl ?_
  refine WC_take 2 (l' := #[true, true, true, false, false, false]) rfl (by decide +kernel) (by decide +kernel) (by decide +kernel) rfl (by decide +kernel) (X_move rfl) rfl ?_
  refine WC_one 3 (l' := #[true, true, true, true, false, false]) (by repeat (first | with_reducible exact HSub.refl _ | refine HSub.cons (by repeat (first | exact Take.here _ | apply Take.next | apply Take.app)) ?_ | refine HSub.app (by repeat (first | with_reducible exact TakeS.here _ | apply TakeS.next | apply TakeS.app)) ?_ | exact HSub.nil _ | exact HSub.refl _ | refine HSub.drop ?_ | refine HSub.dropS ?_)) (by decide +kernel) rfl (by decide +kernel) ?_
  refine W_storeA (l' := [.int .u64 ((18446744073709551615 : Nat) : Int), .slice ad L.length cap]) rfl rfl ty80 rfl rfl (b := b6) (by repeat (first | exact List.mem_cons_self | apply List.mem_cons_of_mem | apply List.mem_append_right)) (by exact Nat.le_refl 2) rfl (by repeat (first | exact Upd.head _ | apply Upd.tail | apply Upd.app)) ?_
  refine W_nil ?_
  refine WC_goal ?_
  refine WC_one 4 (l' := #[true, true, true, true, true, false]) (by repeat (first | with_reducible exact HSub.refl _ | refine HSub.cons (by repeat (first | exact Take.here _ | apply Take.next | apply Take.app)) ?_ | refine HSub.app (by repeat (first | with_reducible exact TakeS.here _ | apply TakeS.next | apply TakeS.app)) ?_ | exact HSub.nil _ | exact HSub.refl _ | refine HSub.drop ?_ | refine HSub.dropS ?_)) (by decide +kernel) rfl (by decide +kernel) ?_
  refine W_storeA (l' := zSpot.v) rfl rfl ty65 rfl rfl (b := b7) (by repeat (first | exact List.mem_cons_self | apply List.mem_cons_of_mem | apply List.mem_append_right)) (by exact Nat.le_refl 4) rfl (by repeat (first | exact Upd.head _ | apply Upd.tail | apply Upd.app)) ?_
  refine W_nil ?_
  refine WC_goal ?_
  refine WC_take 5 (l' := #[true, true, true, true, true, true]) rfl (by decide +kernel) (by decide +kernel) (by decide +kernel) rfl (by decide +kernel) (X_assign rfl) rfl ?_
  refine WC_done (by repeat (first | with_reducible exact HSub.refl _ | refine HSub.cons (by repeat (first | exact Take.here _ | apply Take.next | apply Take.app)) ?_ | refine HSub.app (by repeat (first | with_reducible exact TakeS.here _ | apply TakeS.next | apply TakeS.app)) ?_ | exact HSub.nil _ | exact HSub.refl _ | refine HSub.drop ?_ | refine HSub.dropS ?_)) (by decide +kernel) ?_
  refine W_ret3G (H2 := H) Tryd.results44 (.nil _) (.own rfl ty80 rfl (by repeat (first | exact List.mem_cons_self | apply List.mem_cons_of_mem | apply List.mem_append_right)) rfl) (.own rfl ty65 rfl (by repeat (first | exact List.mem_cons_self | apply List.mem_cons_of_mem | apply List.mem_append_right)) rfl) (.tmp rfl) (by repeat (first | with_reducible exact HSub.refl _ | refine HSub.cons (by repeat (first | exact Take.here _ | apply Take.next | apply Take.app)) ?_ | refine HSub.app (by repeat (first | with_reducible exact TakeS.here _ | apply TakeS.next | apply TakeS.app)) ?_ | exact HSub.nil _ | exact HSub.refl _ | refine HSub.drop ?_ | refine HSub.dropS ?_)) ?_
  exact ⟨rfl, rfl⟩
set_option maxHeartbeats 1000000 in
theorem rPut_ok {w0 : World} {H : Heap} {now cap : Nat} {L : List Tm} {ad : Option Addr} (hl : L.length ≤ 1000000) (hrow : Holds w0 H ad (rowT L)) {id : Int} {a tn : Nat} {e : Spot} (hid : 0 ≤ id ∧ id < 256) (hnow : now ≤ 18446744073709551615) (ha : a ≤ 18446744073709551615) (hin : id ∉ L.map (·.id)) (he : placeT now a = (e, 0))  : LCalls Tryd.prog w0 44 #[.agg (List.toArray [.int .u64 ((now : Nat) : Int), .slice ad L.length cap]), .int .i64 id, .int .u64 ((a : Nat) : Int)] (H) (fun v H' => ∃ sv XB, v = .tuple #[.agg (List.toArray [.int .u64 ((now : Nat) : Int), sv]), .agg e.v.toArray, .int .i64 0] ∧ OwnS 77 5 sv (L ++ [(⟨id, e, tn⟩ : Tm)]).length (rowT (L ++ [(⟨id, e, tn⟩ : Tm)])) XB ∧ H' = XB ++ H) := by
  refine L_enter (l := [.agg (List.toArray [.int .u64 ((now : Nat) : Int), .slice ad L.length cap]), .int .i64 id, .int .u64 ((a : Nat) : Int)]) Tryd.func44 rfl Tryd.ntmps44 rfl rfl ?_
  refine W_sr ?_
  refine W_box (l := [.int .u64 ((now : Nat) : Int), .slice ad L.length cap]) rfl rfl rfl (fun b3 => ?_)
  refine W_alloc (l := [.int .u64 0, .slice none 0 0]) ty80 rfl rfl (fun b6 => ?_)
  refine W_alloc (l := zSpot.v) ty65 rfl rfl (fun b7 => ?_)
  refine W_assign rfl rfl ?_
  refine W_nil ?_
  refine W_seq ?_
  refine W_sr ?_
  refine W_move rfl rfl ?_
  refine W_bin rfl rfl b_lss rfl ?_
  refine W_move rfl rfl ?_
  apply W_or
  iterate 4 exact rfl
  case h1 =>
    intro hg2
    refine W_gyes rfl rfl ?_
    refine W_move rfl rfl ?_
    refine W_gyes rfl rfl ?_
    refine W_bin rfl rfl b_gtr rfl ?_
    exact W_met rfl (by repeat (first | exact .refl | refine .cons rfl ?_))
  refine W_nil ?_
  refine W_condF rfl (by simp; omega) ?_
  refine W_skip ?_
  refine W_seq ?_
  refine W_sr ?_
  refine W_loadB (vs := [.int .u64 ((now : Nat) : Int), .slice ad L.length cap]) rfl ty80 rfl (b := b3) (by repeat (first | exact List.mem_cons_self | apply List.mem_cons_of_mem | apply List.mem_append_right)) rfl rfl rfl ?_
  refine W_move rfl rfl ?_
  refine W_call (.cons rfl (.cons rfl .nil)) Tryd.call39 rfl ((rFind_L (now := now) (cap := cap) (id := id) hl (hrow.up (by repeat (first | with_reducible exact HSub.refl _ | refine HSub.cons (by repeat (first | exact Take.here _ | apply Take.next | apply Take.app)) ?_ | refine HSub.app (by repeat (first | with_reducible exact TakeS.here _ | apply TakeS.next | apply TakeS.app)) ?_ | exact HSub.nil _ | exact HSub.refl _ | refine HSub.drop ?_ | refine HSub.dropS ?_)))).hsub (.refl _)) ?_
  rintro v H' ⟨z, rfl, hz, rfl⟩
  have hzz := hz.held
  refine W_bin rfl rfl b_geq rfl ?_
  refine W_nil ?_
  refine W_condF rfl (by rw [decide_eq_false_iff_not]; exact fun h => hin (hzz.1 h)) ?_
  refine W_skip ?_
  refine W_sr ?_
  refine W_fieldAddr rfl fld80_0 (by decide) rfl ?_
  refine W_load rfl ty22 rfl (Cell.own (by repeat (first | exact List.mem_cons_self | apply List.mem_cons_of_mem | apply List.mem_append_right)) rfl) rfl ?_
  refine W_move rfl rfl ?_
  refine W_callp (.cons rfl (.cons rfl .nil)) Tryd.call65 rfl (T := fun _ => True) trivial (rPlace_pure (a := now) (b := a) hnow ha) ?_
  rw [he]
  refine W_move rfl rfl ?_
  refine W_extract rfl rfl rfl ?_
  refine W_extract rfl rfl rfl ?_
  refine W_alloc (l := zSpot.v) ty65 rfl rfl (fun b9 => ?_)
  refine W_storeA (l' := e.v) rfl rfl ty65 rfl rfl (b := b9) (by repeat (first | exact List.mem_cons_self | apply List.mem_cons_of_mem | apply List.mem_append_right)) (by exact Nat.le_refl 4) rfl (by repeat (first | exact Upd.head _ | apply Upd.tail | apply Upd.app)) ?_
  refine W_assign rfl rfl ?_
  refine W_nil ?_
  refine W_seq ?_
  refine W_sr ?_
  refine W_move rfl rfl ?_
  refine W_bin rfl rfl b_neq rfl ?_
  refine W_nil ?_
  refine W_condF rfl rfl ?_
  refine W_skip ?_
  refine W_sr ?_
  refine W_buildSlice (l := []) ty78 ty77 .nil rfl rfl rfl rfl rfl rfl rfl (fun b38 => ?_)
  refine W_fieldAddr rfl fld80_1 (by decide) rfl ?_
  refine W_load rfl ty78 rfl (Cell.own (by repeat (first | exact List.mem_cons_self | apply List.mem_cons_of_mem | apply List.mem_append_right)) rfl) rfl ?_
  refine W_append (news := rowT L) (m := L.length) (HB := [(b38, .cells 77 0 [])]) (H0 := (b9, .cells 65 4 e.v) :: (b7, .cells 65 4 zSpot.v) :: (b6, .cells 80 2 [.int .u64 0, .slice none 0 0]) :: (b3, .cells 80 2 [.int .u64 ((now : Nat) : Int), .slice ad L.length cap]) :: H) rfl rfl ty78 ty77 rfl (by decide) (OwnS.own (n := 0) (cap := 0) (xs := []) rfl (Nat.le_refl _) (Nat.zero_le _)) (rowT_len L) (hrow.up (by repeat (first | with_reducible exact HSub.refl _ | refine HSub.cons (by repeat (first | exact Take.here _ | apply Take.next | apply Take.app)) ?_ | refine HSub.app (by repeat (first | with_reducible exact TakeS.here _ | apply TakeS.next | apply TakeS.app)) ?_ | exact HSub.nil _ | exact HSub.refl _ | refine HSub.drop ?_ | refine HSub.dropS ?_))) (rowT_one L) (by simp only [maxLen]; omega) (by omega) (.refl _) rfl (fun v1 X1 hO1 => ?_)
  refine W_assign rfl rfl ?_
  refine W_nil ?_
  refine W_seq ?_
  refine W_anyC [(b3, .cells 80 2 [.int .u64 ((now : Nat) : Int), .slice ad L.length cap]), (b9, .cells 65 4 e.v)] (by kernel_rfl) ?_
  refine WC_take 0 (l' := #[true, false, false, false, false, false, false, false, false, false, false, false, false]) rfl (by decide +kernel) (by decide +kernel) (by decide +kernel) rfl (by decide +kernel) (X_fieldAddr rfl fld80_0 (by decide)) rfl ?_
  refine WC_take 1 (l' := #[true, true, false, false, false, false, false, false, false, false, false, false, false]) rfl (by decide +kernel) (by decide +kernel) (by decide +kernel) rfl (by decide +kernel) (X_load rfl ty22 rfl (Cell.own (by repeat (first | exact List.mem_cons_self | apply List.mem_cons_of_mem | apply List.mem_append_right)) rfl)) rfl ?_
  refine WC_take 2 (l' := #[true, true, true, false, false, false, false, false, false, false, false, false, false]) rfl (by decide +kernel) (by decide +kernel) (by decide +kernel) rfl (by decide +kernel) (X_move rfl) rfl ?_
  refine WC_take 3 (l' := #[true, true, true, true, false, false, false, false, false, false, false, false, false]) rfl (by decide +kernel) (by decide +kernel) (by decide +kernel) rfl (by decide +kernel) (X_move rfl) rfl ?_
  refine WC_take 4 (l' := #[true, true, true, true, true, false, false, false, false, false, false, false, false]) rfl (by decide +kernel) (by decide +kernel) (by decide +kernel) rfl (by decide +kernel) (X_loadB (vs := e.v) rfl ty65 rfl (b := b9) (by repeat (first | exact List.mem_cons_self | apply List.mem_cons_of_mem | apply List.mem_append_right)) rfl rfl) rfl ?_
  refine WC_take 5 (l' := #[true, true, true, true, true, true, false, false, false, false, false, false, false]) rfl (by decide +kernel) (by decide +kernel) (by decide +kernel) rfl (by decide +kernel) (X_build (l := tmC (⟨id, e, tn⟩ : Tm)) ty77 pl77 (.cons rfl rfl rfl rfl rfl (.cons rfl rfl rfl rfl rfl .nil)) rfl rfl) rfl ?_
  refine WC_take 9 (l' := #[true, true, true, true, true, true, false, false, false, true, false, false, false]) rfl (by decide +kernel) (by decide +kernel) (by decide +kernel) rfl (by decide +kernel) (X_loadB (vs := e.v) rfl ty65 rfl (b := b9) (by repeat (first | exact List.mem_cons_self | apply List.mem_cons_of_mem | apply List.mem_append_right)) rfl rfl) rfl ?_
  refine WC_one 6 (l' := #[true, true, true, true, true, true, true, false, false, true, false, false, false]) (by repeat (first | with_reducible exact HSub.refl _ | refine HSub.cons (by repeat (first | exact Take.here _ | apply Take.next | apply Take.app)) ?_ | refine HSub.app (by repeat (first | with_reducible exact TakeS.here _ | apply TakeS.next | apply TakeS.app)) ?_ | exact HSub.nil _ | exact HSub.refl _ | refine HSub.drop ?_ | refine HSub.dropS ?_)) (by decide +kernel) rfl (by decide +kernel) ?_
  refine W_buildSlice (l := tmC (⟨id, e, tn⟩ : Tm)) ty78 ty77 (.cons rfl rfl rfl rfl rfl .nil) rfl rfl rfl rfl rfl rfl rfl (fun b48 => ?_)
  refine W_nil ?_
  refine WC_goal ?_
  refine WC_one 7 (l' := #[true, true, true, true, true, true, true, true, false, true, false, false, false]) (by repeat (first | with_reducible exact HSub.refl _ | refine HSub.cons (by repeat (first | exact Take.here _ | apply Take.next | apply Take.app)) ?_ | refine HSub.app (by repeat (first | with_reducible exact TakeS.here _ | apply TakeS.next | apply TakeS.app)) ?_ | exact HSub.nil _ | exact HSub.refl _ | refine HSub.drop ?_ | refine HSub.dropS ?_)) (by decide +kernel) rfl (by decide +kernel) ?_
  refine W_append (news := tmC (⟨id, e, tn⟩ : Tm)) (m := 1) (HB := X1) (H0 := (b48, .cells 77 5 (tmC (⟨id, e, tn⟩ : Tm))) :: (b9, .cells 65 4 e.v) :: (b7, .cells 65 4 zSpot.v) :: (b6, .cells 80 2 [.int .u64 0, .slice none 0 0]) :: (b3, .cells 80 2 [.int .u64 ((now : Nat) : Int), .slice ad L.length cap]) :: H) rfl rfl ty78 ty77 rfl (by decide) hO1 rfl (Holds.own (by repeat (first | exact List.mem_cons_self | apply List.mem_cons_of_mem | apply List.mem_append_right))) rfl (by simp only [maxLen]; omega) (by omega) (by repeat (first | with_reducible exact HSub.refl _ | refine HSub.cons (by repeat (first | exact Take.here _ | apply Take.next | apply Take.app)) ?_ | refine HSub.app (by repeat (first | with_reducible exact TakeS.here _ | apply TakeS.next | apply TakeS.app)) ?_ | exact HSub.nil _ | exact HSub.refl _ | refine HSub.drop ?_ | refine HSub.dropS ?_)) rfl (fun v2 X2 hO2 => ?_)
  obtain ⟨ad2, cap2, rfl, _, _⟩ := hO2.shape
  refine W_nil ?_
  refine WC_goal ?_
  refine WC_take 8 (l' := #[true, true, true, true, true, true, true, true, true, true, false, false, false]) rfl (by decide +kernel) (by decide +kernel) (by decide +kernel) rfl (by decide +kernel) (X_build (l := [.int .u64 ((now : Nat) : Int), .slice ad2 (0 + L.length + 1) cap2]) ty80 pl80 (.cons rfl rfl rfl rfl rfl (.cons rfl rfl rfl rfl rfl .nil)) rfl rfl) rfl ?_
  refine WC_one 10 (l' := #[true, true, true, true, true, true, true, true, true, true, true, false, false]) (by repeat (first | with_reducible exact HSub.refl _ | refine HSub.cons (by repeat (first | exact Take.here _ | apply Take.next | apply Take.app)) ?_ | refine HSub.app (by repeat (first | with_reducible exact TakeS.here _ | apply TakeS.next | apply TakeS.app)) ?_ | exact HSub.nil _ | exact HSub.refl _ | refine HSub.drop ?_ | refine HSub.dropS ?_)) (by decide +kernel) rfl (by decide +kernel) ?_
  refine W_storeA (l' := [.int .u64 ((now : Nat) : Int), .slice ad2 (0 + L.length + 1) cap2]) rfl rfl ty80 rfl rfl (b := b6) (by repeat (first | exact List.mem_cons_self | apply List.mem_cons_of_mem | apply List.mem_append_right)) (by exact Nat.le_refl 2) rfl (by repeat (first | exact Upd.head _ | apply Upd.tail | apply Upd.app)) ?_
  refine W_nil ?_
  refine WC_goal ?_
  refine WC_one 11 (l' := #[true, true, true, true, true, true, true, true, true, true, true, true, false]) (by repeat (first | with_reducible exact HSub.refl _ | refine HSub.cons (by repeat (first | exact Take.here _ | apply Take.next | apply Take.app)) ?_ | refine HSub.app (by repeat (first | with_reducible exact TakeS.here _ | apply TakeS.next | apply TakeS.app)) ?_ | exact HSub.nil _ | exact HSub.refl _ | refine HSub.drop ?_ | refine HSub.dropS ?_)) (by decide +kernel) rfl (by decide +kernel) ?_
  refine W_storeA (l' := e.v) rfl rfl ty65 rfl rfl (b := b7) (by repeat (first | exact List.mem_cons_self | apply List.mem_cons_of_mem | apply List.mem_append_right)) (by exact Nat.le_refl 4) rfl (by repeat (first | exact Upd.head _ | apply Upd.tail | apply Upd.app)) ?_
  refine W_nil ?_
  refine WC_goal ?_
  refine WC_take 12 (l' := #[true, true, true, true, true, true, true, true, true, true, true, true, true]) rfl (by decide +kernel) (by decide +kernel) (by decide +kernel) rfl (by decide +kernel) (X_assign rfl) rfl ?_
  refine WC_done (by repeat (first | with_reducible exact HSub.refl _ | refine HSub.cons (by repeat (first | exact Take.here _ | apply Take.next | apply Take.app)) ?_ | refine HSub.app (by repeat (first | with_reducible exact TakeS.here _ | apply TakeS.next | apply TakeS.app)) ?_ | exact HSub.nil _ | exact HSub.refl _ | refine HSub.drop ?_ | refine HSub.dropS ?_)) (by decide +kernel) ?_
  refine W_ret3G (H2 := X2 ++ H) Tryd.results44 (.nil _) (.own rfl ty80 rfl (by repeat (first | exact List.mem_cons_self | apply List.mem_cons_of_mem | apply List.mem_append_right)) rfl) (.own rfl ty65 rfl (by repeat (first | exact List.mem_cons_self | apply List.mem_cons_of_mem | apply List.mem_append_right)) rfl) (.tmp rfl) (by repeat (first | with_reducible exact HSub.refl _ | refine HSub.cons (by repeat (first | exact Take.here _ | apply Take.next | apply Take.app)) ?_ | refine HSub.app (by repeat (first | with_reducible exact TakeS.here _ | apply TakeS.next | apply TakeS.app)) ?_ | exact HSub.nil _ | exact HSub.refl _ | refine HSub.drop ?_ | refine HSub.dropS ?_)) ?_
  exact ⟨_, X2, rfl, by rw [rowT_app, List.length_append]; simp only [Nat.zero_add, List.nil_append] at hO2 ⊢; exact hO2, rfl⟩
set_option maxHeartbeats 1000000 in
theorem rDel_miss {w0 : World} {H : Heap} {now cap : Nat} {L : List Tm} {ad : Option Addr} (hl : L.length ≤ 1000000) (hrow : Holds w0 H ad (rowT L)) {id : Int} (hin : id ∉ L.map (·.id))  : PureAt Tryd.prog w0 H 45 [.agg (List.toArray [.int .u64 ((now : Nat) : Int), .slice ad L.length cap]), .int .i64 id] (.tuple #[.agg (List.toArray [.int .u64 ((now : Nat) : Int), .slice ad L.length cap]), .bool false]) := by
  refine L_enter Tryd.func45 rfl Tryd.ntmps45 rfl rfl ?_
  refine W_sr ?_
  refine W_box (l := [.int .u64 ((now : Nat) : Int), .slice ad L.length cap]) rfl rfl rfl (fun b2 => ?_)
  refine W_alloc (l := [.int .u64 0, .slice none 0 0]) ty80 rfl rfl (fun b4 => ?_)
  refine W_assign rfl rfl ?_
  refine W_nil ?_
  refine W_sr ?_
  refine W_loadB (vs := [.int .u64 ((now : Nat) : Int), .slice ad L.length cap]) rfl ty80 rfl (b := b2) (by repeat (first | exact List.mem_cons_self | apply List.mem_cons_of_mem | apply List.mem_append_right)) rfl rfl rfl ?_
  refine W_move rfl rfl ?_
  refine W_call (.cons rfl (.cons rfl .nil)) Tryd.call39 rfl ((rFind_L (now := now) (cap := cap) (id := id) hl (hrow.up (by repeat (first | with_reducible exact HSub.refl _ | refine HSub.cons (by repeat (first | exact Take.here _ | apply Take.next | apply Take.app)) ?_ | refine HSub.app (by repeat (first | with_reducible exact TakeS.here _ | apply TakeS.next | apply TakeS.app)) ?_ | exact HSub.nil _ | exact HSub.refl _ | refine HSub.drop ?_ | refine HSub.dropS ?_)))).hsub (.refl _)) ?_
  rintro v H' ⟨z, rfl, hz, rfl⟩
  have hzz := hz.held
  refine W_assign rfl rfl ?_
  refine W_nil ?_
  refine W_seq ?_
  refine W_sr ?_
  refine W_move rfl rfl ?_
  refine W_bin rfl rfl b_lss rfl ?_
  refine W_nil ?_
  refine W_condT rfl (by rw [decide_eq_true_eq]; by_cases h : 0 ≤ z; exact absurd (hzz.1 h) hin; omega) ?_
  refine W_sr ?_
  refine W_loadB (vs := [.int .u64 ((now : Nat) : Int), .slice ad L.length cap]) rfl ty80 rfl (b := b2) (by repeat (first | exact List.mem_cons_self | apply List.mem_cons_of_mem | apply List.mem_append_right)) rfl rfl rfl ?_
  refine W_storeA (l' := [.int .u64 ((now : Nat) : Int), .slice ad L.length cap]) rfl rfl ty80 rfl rfl (b := b4) (by repeat (first | exact List.mem_cons_self | apply List.mem_cons_of_mem | apply List.mem_append_right)) (by exact Nat.le_refl 2) rfl (by repeat (first | exact Upd.head _ | apply Upd.tail | apply Upd.app)) ?_
  refine W_assign rfl rfl ?_
  refine W_nil ?_
  refine W_ret2G (H2 := H) Tryd.results45 (.nil _) (.own rfl ty80 rfl (by repeat (first | exact List.mem_cons_self | apply List.mem_cons_of_mem | apply List.mem_append_right)) rfl) (.tmp rfl) (by repeat (first | with_reducible exact HSub.refl _ | refine HSub.cons (by repeat (first | exact Take.here _ | apply Take.next | apply Take.app)) ?_ | refine HSub.app (by repeat (first | with_reducible exact TakeS.here _ | apply TakeS.next | apply TakeS.app)) ?_ | exact HSub.nil _ | exact HSub.refl _ | refine HSub.drop ?_ | refine HSub.dropS ?_)) ?_
  exact ⟨rfl, rfl⟩
set_option maxHeartbeats 1000000 in
theorem rDel_hit {w0 : World} {H : Heap} {now cap : Nat} {L : List Tm} {ad : Option Addr} (hl : L.length ≤ 1000000) (hrow : Holds w0 H ad (rowT L)) {t : Tm} (hcap : L.length ≤ cap) (hn : (L.map (·.id)).Nodup) (hin : t ∈ L)  : LCalls Tryd.prog w0 45 #[.agg (List.toArray [.int .u64 ((now : Nat) : Int), .slice ad L.length cap]), .int .i64 t.id] (H) (fun v H' => ∃ sv XB, v = .tuple #[.agg (List.toArray [.int .u64 ((now : Nat) : Int), sv]), .bool true] ∧ OwnS 77 5 sv (delT L t.id).length (rowT (delT L t.id)) XB ∧ H' = XB ++ H) := by
  refine L_enter (l := [.agg (List.toArray [.int .u64 ((now : Nat) : Int), .slice ad L.length cap]), .int .i64 t.id]) Tryd.func45 rfl Tryd.ntmps45 rfl rfl ?_
  refine W_sr ?_
  refine W_box (l := [.int .u64 ((now : Nat) : Int), .slice ad L.length cap]) rfl rfl rfl (fun b2 => ?_)
  refine W_alloc (l := [.int .u64 0, .slice none 0 0]) ty80 rfl rfl (fun b4 => ?_)
  refine W_assign rfl rfl ?_
  refine W_nil ?_
  refine W_sr ?_
  refine W_loadB (vs := [.int .u64 ((now : Nat) : Int), .slice ad L.length cap]) rfl ty80 rfl (b := b2) (by repeat (first | exact List.mem_cons_self | apply List.mem_cons_of_mem | apply List.mem_append_right)) rfl rfl rfl ?_
  refine W_move rfl rfl ?_
  refine W_call (.cons rfl (.cons rfl .nil)) Tryd.call39 rfl ((rFind_L (now := now) (cap := cap) (id := t.id) hl (hrow.up (by repeat (first | with_reducible exact HSub.refl _ | refine HSub.cons (by repeat (first | exact Take.here _ | apply Take.next | apply Take.app)) ?_ | refine HSub.app (by repeat (first | with_reducible exact TakeS.here _ | apply TakeS.next | apply TakeS.app)) ?_ | exact HSub.nil _ | exact HSub.refl _ | refine HSub.drop ?_ | refine HSub.dropS ?_)))).hsub (.refl _)) ?_
  rintro v H' ⟨z, rfl, hz, rfl⟩
  obtain ⟨i, t2, rfl, hi, e2⟩ := hz.resolve_right (fun h => h.2 (List.mem_map_of_mem hin))
  obtain rfl : t2 = t := tm_uniq hn (List.mem_of_getElem? hi) hin e2
  have hil := (List.getElem?_eq_some_iff.1 hi).1
  refine W_assign rfl rfl ?_
  refine W_nil ?_
  refine W_seq ?_
  refine W_sr ?_
  refine W_move rfl rfl ?_
  refine W_bin rfl rfl b_lss rfl ?_
  refine W_nil ?_
  refine W_condF rfl (decide_eq_false (by omega)) ?_
  refine W_skip ?_
  refine W_sr ?_
  refine W_buildSlice (l := []) ty78 ty77 .nil rfl rfl rfl rfl rfl rfl rfl (fun b14 => ?_)
  refine W_fieldAddr rfl fld80_1 (by decide) rfl ?_
  refine W_load rfl ty78 rfl (Cell.own (by repeat (first | exact List.mem_cons_self | apply List.mem_cons_of_mem | apply List.mem_append_right)) rfl) rfl ?_
  refine W_move rfl rfl ?_
  obtain ⟨b0, o0, rfl, _⟩ := Holds.row tmC_len (by decide) hrow hi
  refine W_slice0 (hh := i) rfl ty78 ty77 rfl ⟨_, rfl⟩ (by omega) rfl ?_
  refine W_append (news := rowT (L.take i)) (m := i) (HB := [(b14, .cells 77 0 [])]) (H0 := (b4, .cells 80 2 [.int .u64 0, .slice none 0 0]) :: (b2, .cells 80 2 [.int .u64 ((now : Nat) : Int), .slice (some ⟨b0, o0, none⟩) L.length cap]) :: H) rfl rfl ty78 ty77 rfl (by decide) (OwnS.own (n := 0) (cap := 0) (xs := []) rfl (Nat.le_refl _) (Nat.zero_le _)) (by rw [rowT_len, List.length_take]; congr 1; omega) (by rw [← rowT_take]; exact (hrow.take _).up (by repeat (first | with_reducible exact HSub.refl _ | refine HSub.cons (by repeat (first | exact Take.here _ | apply Take.next | apply Take.app)) ?_ | refine HSub.app (by repeat (first | with_reducible exact TakeS.here _ | apply TakeS.next | apply TakeS.app)) ?_ | exact HSub.nil _ | exact HSub.refl _ | refine HSub.drop ?_ | refine HSub.dropS ?_))) (rowT_one _) (by simp only [maxLen]; omega) (by omega) (.refl _) rfl (fun v1 X1 hO1 => ?_)
  refine W_assign rfl rfl ?_
  refine W_nil ?_
  refine W_seq ?_
  refine W_anyC [(b2, .cells 80 2 [.int .u64 ((now : Nat) : Int), .slice (some ⟨b0, o0, none⟩) L.length cap])] (by kernel_rfl) ?_
  refine WC_take 0 (l' := #[true, false, false, false, false, false, false, false, false, false, false, false]) rfl (by decide +kernel) (by decide +kernel) (by decide +kernel) rfl (by decide +kernel) (X_fieldAddr rfl fld80_0 (by decide)) rfl ?_
  refine WC_take 1 (l' := #[true, true, false, false, false, false, false, false, false, false, false, false]) rfl (by decide +kernel) (by decide +kernel) (by decide +kernel) rfl (by decide +kernel) (X_load rfl ty22 rfl (Cell.own (by repeat (first | exact List.mem_cons_self | apply List.mem_cons_of_mem | apply List.mem_append_right)) rfl)) rfl ?_
  refine WC_take 2 (l' := #[true, true, true, false, false, false, false, false, false, false, false, false]) rfl (by decide +kernel) (by decide +kernel) (by decide +kernel) rfl (by decide +kernel) (X_move rfl) rfl ?_
  refine WC_take 3 (l' := #[true, true, true, true, false, false, false, false, false, false, false, false]) rfl (by decide +kernel) (by decide +kernel) (by decide +kernel) rfl (by decide +kernel) (X_fieldAddr rfl fld80_1 (by decide)) rfl ?_
  refine WC_take 4 (l' := #[true, true, true, true, true, false, false, false, false, false, false, false]) rfl (by decide +kernel) (by decide +kernel) (by decide +kernel) rfl (by decide +kernel) (X_load rfl ty78 rfl (Cell.own (by repeat (first | exact List.mem_cons_self | apply List.mem_cons_of_mem | apply List.mem_append_right)) rfl)) rfl ?_
  refine WC_take 5 (l' := #[true, true, true, true, true, true, false, false, false, false, false, false]) rfl (by decide +kernel) (by decide +kernel) (by decide +kernel) rfl (by decide +kernel) (X_move rfl) rfl ?_
  refine WC_take 6 (l' := #[true, true, true, true, true, true, true, false, false, false, false, false]) rfl (by decide +kernel) (by decide +kernel) (by decide +kernel) rfl (by decide +kernel) (X_bin rfl rfl (b_add (m := ((i + 1 : Nat) : Int)) (by rw [i64w (by omega)]; omega))) rfl ?_
  obtain ⟨o1, ho1⟩ : ∃ o1, o1 = if cap = i + 1 then o0 else o0 + (i + 1) * 5 := ⟨_, rfl⟩
  have hdr : Holds w0 H (some ⟨b0, o1, none⟩) (rowT (L.drop (i + 1))) := by
    rw [← rowT_drop]
    exact Holds.drop (cap := cap * 5) hrow (by rw [rowT_len]; omega) (fun h => by rw [ho1, if_neg (by omega)])
  refine WC_take 7 (l' := #[true, true, true, true, true, true, true, true, false, false, false, false]) rfl (by decide +kernel) (by decide +kernel) (by decide +kernel) rfl (by decide +kernel) (X_sliceAt (l := i + 1) (hh := L.length) rfl ty78 ty77 ⟨_, rfl⟩ rfl (by omega) hcap ho1) rfl ?_
  refine WC_one 8 (l' := #[true, true, true, true, true, true, true, true, true, false, false, false]) (by repeat (first | with_reducible exact HSub.refl _ | refine HSub.cons (by repeat (first | exact Take.here _ | apply Take.next | apply Take.app)) ?_ | refine HSub.app (by repeat (first | with_reducible exact TakeS.here _ | apply TakeS.next | apply TakeS.app)) ?_ | exact HSub.nil _ | exact HSub.refl _ | refine HSub.drop ?_ | refine HSub.dropS ?_)) (by decide +kernel) rfl (by decide +kernel) ?_
  refine W_append (news := rowT (L.drop (i + 1))) (m := L.length - (i + 1)) (HB := X1) (H0 := (b4, .cells 80 2 [.int .u64 0, .slice none 0 0]) :: (b2, .cells 80 2 [.int .u64 ((now : Nat) : Int), .slice (some ⟨b0, o0, none⟩) L.length cap]) :: H) rfl rfl ty78 ty77 rfl (by decide) hO1 (by rw [rowT_len, List.length_drop]) (hdr.up (by repeat (first | with_reducible exact HSub.refl _ | refine HSub.cons (by repeat (first | exact Take.here _ | apply Take.next | apply Take.app)) ?_ | refine HSub.app (by repeat (first | with_reducible exact TakeS.here _ | apply TakeS.next | apply TakeS.app)) ?_ | exact HSub.nil _ | exact HSub.refl _ | refine HSub.drop ?_ | refine HSub.dropS ?_))) (rowT_one _) (by simp only [maxLen]; omega) (by omega) (by repeat (first | with_reducible exact HSub.refl _ | refine HSub.cons (by repeat (first | exact Take.here _ | apply Take.next | apply Take.app)) ?_ | refine HSub.app (by repeat (first | with_reducible exact TakeS.here _ | apply TakeS.next | apply TakeS.app)) ?_ | exact HSub.nil _ | exact HSub.refl _ | refine HSub.drop ?_ | refine HSub.dropS ?_)) rfl (fun v2 X2 hO2 => ?_)
  obtain ⟨ad2, cap2, rfl, _, _⟩ := hO2.shape
  refine W_nil ?_
  refine WC_goal ?_
  refine WC_take 9 (l' := #[true, true, true, true, true, true, true, true, true, true, false, false]) rfl (by decide +kernel) (by decide +kernel) (by decide +kernel) rfl (by decide +kernel) (X_build (l := [.int .u64 ((now : Nat) : Int), .slice ad2 (0 + i + (L.length - (i + 1))) cap2]) ty80 pl80 (.cons rfl rfl rfl rfl rfl (.cons rfl rfl rfl rfl rfl .nil)) rfl rfl) rfl ?_
  refine WC_one 10 (l' := #[true, true, true, true, true, true, true, true, true, true, true, false]) (by repeat (first | with_reducible exact HSub.refl _ | refine HSub.cons (by repeat (first | exact Take.here _ | apply Take.next | apply Take.app)) ?_ | refine HSub.app (by repeat (first | with_reducible exact TakeS.here _ | apply TakeS.next | apply TakeS.app)) ?_ | exact HSub.nil _ | exact HSub.refl _ | refine HSub.drop ?_ | refine HSub.dropS ?_)) (by decide +kernel) rfl (by decide +kernel) ?_
  refine W_storeA (l' := [.int .u64 ((now : Nat) : Int), .slice ad2 (0 + i + (L.length - (i + 1))) cap2]) rfl rfl ty80 rfl rfl (b := b4) (by repeat (first | exact List.mem_cons_self | apply List.mem_cons_of_mem | apply List.mem_append_right)) (by exact Nat.le_refl 2) rfl (by repeat (first | exact Upd.head _ | apply Upd.tail | apply Upd.app)) ?_
  refine W_nil ?_
  refine WC_goal ?_
  refine WC_take 11 (l' := #[true, true, true, true, true, true, true, true, true, true, true, true]) rfl (by decide +kernel) (by decide +kernel) (by decide +kernel) rfl (by decide +kernel) (X_assign rfl) rfl ?_
  refine WC_done (by repeat (first | with_reducible exact HSub.refl _ | refine HSub.cons (by repeat (first | exact Take.here _ | apply Take.next | apply Take.app)) ?_ | refine HSub.app (by repeat (first | with_reducible exact TakeS.here _ | apply TakeS.next | apply TakeS.app)) ?_ | exact HSub.nil _ | exact HSub.refl _ | refine HSub.drop ?_ | refine HSub.dropS ?_)) (by decide +kernel) ?_
  refine W_ret2G (H2 := X2 ++ H) Tryd.results45 (.nil _) (.own rfl ty80 rfl (by repeat (first | exact List.mem_cons_self | apply List.mem_cons_of_mem | apply List.mem_append_right)) rfl) (.tmp rfl) (by repeat (first | with_reducible exact HSub.refl _ | refine HSub.cons (by repeat (first | exact Take.here _ | apply Take.next | apply Take.app)) ?_ | refine HSub.app (by repeat (first | with_reducible exact TakeS.here _ | apply TakeS.next | apply TakeS.app)) ?_ | exact HSub.nil _ | exact HSub.refl _ | refine HSub.drop ?_ | refine HSub.dropS ?_)) ?_
  refine ⟨_, X2, rfl, ?_, rfl⟩
  rw [delT_at hn hi, rowT_app, List.length_append, List.length_take, List.length_drop, Nat.min_eq_left (by omega)]
  simp only [Nat.zero_add, List.nil_append] at hO2 ⊢
  exact hO2
end Go.Proofs.YtknbohnoiigioaaDoor
