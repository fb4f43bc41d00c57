/-
  Own work: contracts of functions that the statement reaches, and plain facts on what they compute; each theorem says its conditions.
-/
import Derived.Test.YtknbohnoiigioaaO8
import Derived.Test.YtknbohnoiigioaaSlLoop
import Derived.Test.YtknbohnoiigioaaSlMore
set_option linter.all false
set_option linter.unusedSimpArgs false
set_option linter.unusedVariables false
namespace Go.Proofs.Ytknbohnoiigioaa
open Go Go.Sl
attribute [local irreducible] W

theorem ints_one (l : List Int) : (l.map (Value.int .i64)).all Value.oneCell' = true := by
  rw [List.all_map]; exact List.all_eq_true.2 fun _ _ => rfl
theorem takeAt {α : Type} {l : List α} {i : Nat} {x : α} (h : l[i]? = some x) : l.take (i + 1) = l.take i ++ [x] := by
  rw [List.take_add_one, h]; rfl
set_option maxHeartbeats 1000000 in
theorem same_q {w0 : World} {H : Heap} {l r : List Int} {a1 a2 : Option Addr} {c1 c2 : Nat} (hl : Holds w0 H a1 (l.map (Value.int .i64))) (hr : Holds w0 H a2 (r.map (Value.int .i64))) (hn : l.length ≤ 4611686018427387904)  : PureAt Try.prog w0 H 11 [.slice a1 l.length c1, .slice a2 r.length c2] (.bool (decide (l = r))) := by
  refine L_enter Try.func11 rfl Try.ntmps11 rfl rfl ?_
  refine W_sr ?_
  refine W_assign rfl rfl ?_
  refine W_nil ?_
  refine W_seq ?_
  refine W_sr ?_
  refine W_move rfl rfl ?_
  refine W_len rfl ty22 rfl rfl ?_
  refine W_move rfl rfl ?_
  refine W_len rfl ty22 rfl rfl ?_
  refine W_bin rfl rfl b_neq rfl ?_
  refine W_nil ?_
  refine W_condPS (p := (l.length : Int) ≠ (r.length : Int)) rfl (by simp) (fun q0 => ?_) (fun q0 => ?_)
  · skip
    refine W_sr ?_
    refine W_assign rfl rfl ?_
    refine W_nil ?_
    refine W_ret1m (H2 := H) Try.results11 rfl (.nil _) (by repeat (first | with_reducible exact HSub.refl _ | refine HSub.cons (by repeat (first | exact Take.here _ | apply Take.next | apply Take.app)) ?_ | refine HSub.app (by repeat (first | with_reducible exact TakeS.here _ | apply TakeS.next | apply TakeS.app)) ?_ | exact HSub.nil _ | exact HSub.refl _ | refine HSub.drop ?_ | refine HSub.dropS ?_)) ?_
    exact ⟨by rw [decide_eq_false (fun e => q0 (by rw [e]))], rfl⟩
  · skip
    refine W_skip ?_
    refine W_seq ?_
    refine W_sr ?_
    refine W_assign rfl rfl ?_
    refine W_nil ?_
    refine W_block ?_
    have hlen : l.length = r.length := by omega
    refine W_loopC (X := Nat) [(0, _), (1, _)] (fun (i : Nat) => [(5, .int .i64 (i : Int))]) (fun _ => _) (fun (i : Nat) => H) (fun (i : Nat) => i ≤ l.length ∧ l.take i = r.take i) (fun (i : Nat) => l.length - i) 0 ⟨Nat.zero_le _, rfl⟩ (sub_cons rfl (sub_cons rfl (sub_nil _))) (sub_cons rfl (sub_nil _)) rfl (by repeat (first | with_reducible exact HSub.refl _ | refine HSub.cons (by repeat (first | exact Take.here _ | apply Take.next | apply Take.app)) ?_ | refine HSub.app (by repeat (first | with_reducible exact TakeS.here _ | apply TakeS.next | apply TakeS.app)) ?_ | exact HSub.nil _ | exact HSub.refl _ | refine HSub.drop ?_ | refine HSub.dropS ?_)) ?_
    rintro i ⟨hi, heq⟩
    simp only [List.cons_append, List.nil_append]
    refine W_seq ?_
    refine W_sr ?_
    refine W_move rfl rfl ?_
    refine W_move rfl rfl ?_
    refine W_len rfl ty22 rfl rfl ?_
    refine W_bin rfl rfl b_lss rfl ?_
    refine W_nil ?_
    refine W_condPS (p := (i : Int) < (l.length : Int)) rfl (by simp) (fun q1 => ?_) (fun q1 => ?_)
    · skip
      refine W_skip ?_
      refine W_seq ?_
      refine W_block ?_
      refine W_quietsr (by kernel_rfl) (by decide +kernel) ?_
      obtain ⟨x, hx⟩ : ∃ x, l[i]? = some x := ⟨_, List.getElem?_eq_getElem (by omega)⟩
      obtain ⟨q0, p0, rfl, hc⟩ := hl.at (i := i) (v := .int .i64 x) (by rw [List.getElem?_map, hx]; rfl)
      obtain ⟨y, hy⟩ : ∃ y, r[i]? = some y := ⟨_, List.getElem?_eq_getElem (by omega)⟩
      obtain ⟨q1, p1, rfl, hc'⟩ := hr.at (i := i) (v := .int .i64 y) (by rw [List.getElem?_map, hy]; rfl)
      refine WQ_x (X_move rfl) rfl ?_
      refine WQ_x (X_move rfl) rfl ?_
      refine WQ_x (X_indexAddr (j := i) rfl rfl ty22 ty3 rfl (by omega) rfl) rfl ?_
      refine WQ_x (X_load (v := .int .i64 x) rfl ty3 rfl (by rw [Nat.mul_one]; exact hc.up (by repeat (first | with_reducible exact HSub.refl _ | refine HSub.cons (by repeat (first | exact Take.here _ | apply Take.next | apply Take.app)) ?_ | refine HSub.app (by repeat (first | with_reducible exact TakeS.here _ | apply TakeS.next | apply TakeS.app)) ?_ | exact HSub.nil _ | exact HSub.refl _ | refine HSub.drop ?_ | refine HSub.dropS ?_)))) rfl ?_
      refine WQ_x (X_move rfl) rfl ?_
      refine WQ_x (X_move rfl) rfl ?_
      refine WQ_x (X_indexAddr (j := i) rfl rfl ty22 ty3 rfl (by omega) rfl) rfl ?_
      refine WQ_x (X_load (v := .int .i64 y) rfl ty3 rfl (by rw [Nat.mul_one]; exact hc'.up (by repeat (first | with_reducible exact HSub.refl _ | refine HSub.cons (by repeat (first | exact Take.here _ | apply Take.next | apply Take.app)) ?_ | refine HSub.app (by repeat (first | with_reducible exact TakeS.here _ | apply TakeS.next | apply TakeS.app)) ?_ | exact HSub.nil _ | exact HSub.refl _ | refine HSub.drop ?_ | refine HSub.dropS ?_)))) rfl ?_
      refine WQ_x (X_bin rfl rfl b_neq) rfl ?_
      refine WQ_nil ?_
      refine W_condPS (p := ¬ x = y) rfl (by simp) (fun q2 => ?_) (fun q2 => ?_)
      · skip
        refine W_sr ?_
        refine W_assign rfl rfl ?_
        refine W_nil ?_
        refine W_ret1m (H2 := H) Try.results11 rfl (.nil _) (by repeat (first | with_reducible exact HSub.refl _ | refine HSub.cons (by repeat (first | exact Take.here _ | apply Take.next | apply Take.app)) ?_ | refine HSub.app (by repeat (first | with_reducible exact TakeS.here _ | apply TakeS.next | apply TakeS.app)) ?_ | exact HSub.nil _ | exact HSub.refl _ | refine HSub.drop ?_ | refine HSub.dropS ?_)) ?_
        exact ⟨by rw [decide_eq_false (fun e => q2 (by rw [e, hy] at hx; exact (Option.some.inj hx).symm))], rfl⟩
      · skip
        refine W_skip ?_
        refine W_blk ?_
        refine W_region ?_
        refine W_move rfl rfl ?_
        refine W_bin rfl rfl (b_add (m := ((i + 1 : Nat) : Int)) ((i64w (by omega)).trans (by omega))) rfl ?_
        refine W_assign rfl rfl ?_
        refine W_nil ?_
        refine W_again (i + 1) ⟨by omega, by rw [takeAt hx, takeAt hy, heq, Classical.not_not.1 q2]⟩ (by omega) (sub_cons rfl (sub_cons rfl (sub_cons rfl (sub_nil _)))) rfl (by repeat (first | with_reducible exact HSub.refl _ | refine HSub.cons (by repeat (first | exact Take.here _ | apply Take.next | apply Take.app)) ?_ | refine HSub.app (by repeat (first | with_reducible exact TakeS.here _ | apply TakeS.next | apply TakeS.app)) ?_ | exact HSub.nil _ | exact HSub.refl _ | refine HSub.drop ?_ | refine HSub.dropS ?_))
    · skip
      refine W_exit rfl ?_
      refine W_sr ?_
      refine W_assign rfl rfl ?_
      refine W_nil ?_
      refine W_ret1m (H2 := H) Try.results11 rfl (.nil _) (by repeat (first | with_reducible exact HSub.refl _ | refine HSub.cons (by repeat (first | exact Take.here _ | apply Take.next | apply Take.app)) ?_ | refine HSub.app (by repeat (first | with_reducible exact TakeS.here _ | apply TakeS.next | apply TakeS.app)) ?_ | exact HSub.nil _ | exact HSub.refl _ | refine HSub.drop ?_ | refine HSub.dropS ?_)) ?_
      obtain rfl : i = l.length := by omega
      exact ⟨by rw [decide_eq_true (by rwa [List.take_length, hlen, List.take_length] at heq)], rfl⟩
set_option maxHeartbeats 1000000 in
theorem rfind_L {w0 : World} {H : Heap} {m : List Int} {k : Int} {ad : Option Addr} {cap : Nat} (hm : m.length ≤ 4611686018427387904) (hrow : Holds w0 H ad (m.map (Value.int .i64)))  : LCalls Try.prog w0 25 #[.slice ad m.length cap, .int .i64 k] (H) (fun v H' => ∃ z : Int, v = .int .i64 z ∧ ((∃ i : Nat, z = i ∧ m[i]? = some k) ∨ (z = -1 ∧ k ∉ m)) ∧ H' = H) := by
  refine L_enter (l := [.slice ad m.length cap, .int .i64 k]) Try.func25 rfl Try.ntmps25 rfl rfl ?_
  refine W_sr ?_
  refine W_assign rfl rfl ?_
  refine W_nil ?_
  refine W_seq ?_
  refine W_sr ?_
  refine W_assign rfl rfl ?_
  refine W_nil ?_
  refine W_block ?_
  refine W_loopC (X := Nat) [(0, _), (1, _)] (fun (i : Nat) => [(5, .int .i64 (i : Int))]) (fun _ => _) (fun (i : Nat) => H) (fun (i : Nat) => i ≤ m.length ∧ k ∉ m.take i) (fun (i : Nat) => m.length - i) 0 ⟨Nat.zero_le _, by simp⟩ (sub_cons rfl (sub_cons rfl (sub_nil _))) (sub_cons rfl (sub_nil _)) rfl (by repeat (first | with_reducible exact HSub.refl _ | refine HSub.cons (by repeat (first | exact Take.here _ | apply Take.next | apply Take.app)) ?_ | refine HSub.app (by repeat (first | with_reducible exact TakeS.here _ | apply TakeS.next | apply TakeS.app)) ?_ | exact HSub.nil _ | exact HSub.refl _ | refine HSub.drop ?_ | refine HSub.dropS ?_)) ?_
  rintro i ⟨hi, hn⟩
  simp only [List.cons_append, List.nil_append]
  refine W_seq ?_
  refine W_sr ?_
  refine W_move rfl rfl ?_
  refine W_move rfl rfl ?_
  refine W_len rfl ty22 rfl rfl ?_
  refine W_bin rfl rfl b_lss rfl ?_
  refine W_nil ?_
  refine W_condPS (p := (i : Int) < (m.length : Int)) rfl (by simp) (fun q0 => ?_) (fun q0 => ?_)
  · skip
    refine W_skip ?_
    refine W_seq ?_
    refine W_block ?_
    refine W_sr ?_
    obtain ⟨x, hx⟩ : ∃ x, m[i]? = some x := ⟨_, List.getElem?_eq_getElem (by omega)⟩
    obtain ⟨q0, p0, rfl, hc⟩ := hrow.at (i := i) (v := .int .i64 x) (by rw [List.getElem?_map, hx]; rfl)
    refine W_move rfl rfl ?_
    refine W_move rfl rfl ?_
    refine W_indexAddr (j := i) rfl rfl ty22 ty3 rfl (by omega) rfl rfl ?_
    refine W_load (v := .int .i64 x) rfl ty3 rfl (by rw [Nat.mul_one]; exact hc.up (by repeat (first | with_reducible exact HSub.refl _ | refine HSub.cons (by repeat (first | exact Take.here _ | apply Take.next | apply Take.app)) ?_ | refine HSub.app (by repeat (first | with_reducible exact TakeS.here _ | apply TakeS.next | apply TakeS.app)) ?_ | exact HSub.nil _ | exact HSub.refl _ | refine HSub.drop ?_ | refine HSub.dropS ?_))) rfl ?_
    refine W_move rfl rfl ?_
    refine W_bin rfl rfl b_eql rfl ?_
    refine W_nil ?_
    refine W_condPS (p := x = k) rfl (by simp) (fun q1 => ?_) (fun q1 => ?_)
    · skip
      refine W_sr ?_
      refine W_move rfl rfl ?_
      refine W_assign rfl rfl ?_
      refine W_nil ?_
      refine W_ret1m Try.results25 rfl (.nil _) (.refl _) ?_
      subst q1
      exact ⟨i, rfl, .inl ⟨i, rfl, hx⟩, rfl⟩
    · skip
      refine W_skip ?_
      refine W_blk ?_
      refine W_region ?_
      refine W_move rfl rfl ?_
      refine W_bin rfl rfl (b_add (m := ((i + 1 : Nat) : Int)) ((i64w (by omega)).trans (by omega))) rfl ?_
      refine W_assign rfl rfl ?_
      refine W_nil ?_
      refine W_again (i + 1) ⟨by omega, by rw [takeAt hx, List.mem_append]; exact fun h => h.elim hn (fun h => q1 (List.mem_singleton.1 h).symm)⟩ (by omega) (sub_cons rfl (sub_cons rfl (sub_cons rfl (sub_nil _)))) rfl (by repeat (first | with_reducible exact HSub.refl _ | refine HSub.cons (by repeat (first | exact Take.here _ | apply Take.next | apply Take.app)) ?_ | refine HSub.app (by repeat (first | with_reducible exact TakeS.here _ | apply TakeS.next | apply TakeS.app)) ?_ | exact HSub.nil _ | exact HSub.refl _ | refine HSub.drop ?_ | refine HSub.dropS ?_))
  · skip
    refine W_exit rfl ?_
    refine W_sr ?_
    refine W_assign rfl rfl ?_
    refine W_nil ?_
    refine W_ret1m Try.results25 rfl (.nil _) (.refl _) ?_
    obtain rfl : i = m.length := by omega
    exact ⟨-1, rfl, .inr ⟨rfl, by rwa [List.take_length] at hn⟩, rfl⟩

theorem drop1_at {K : Type} [DecidableEq K] : ∀ {m : List K} {i : Nat} {k : K}, m.Nodup → m[i]? = some k → drop1 m k = m.take i ++ m.drop (i + 1)
  | x :: m, 0, k, hn, h => by
    obtain rfl : x = k := by simpa using h
    have hn' := List.nodup_cons.1 hn
    unfold drop1
    rw [List.filter_cons_of_neg (by simp)]
    exact drop1_not hn'.1
  | x :: m, i + 1, k, hn, h => by
    have hn' := List.nodup_cons.1 hn
    have hk : m[i]? = some k := by simpa using h
    have hne : x ≠ k := fun e => hn'.1 (e ▸ List.mem_of_getElem? hk)
    have ih := drop1_at hn'.2 hk
    unfold drop1 at ih ⊢
    rw [List.filter_cons_of_pos (by simpa using hne), ih]
    rfl
set_option maxHeartbeats 1000000 in
theorem rdrop_L {w0 : World} {H : Heap} {m : List Int} {k : Int} {ad : Option Addr} {cap : Nat} (hn : m.Nodup) (hm : m.length ≤ 4611686018427) (hcap : m.length ≤ cap) (hrow : Holds w0 H ad (m.map (Value.int .i64)))  : LCalls Try.prog w0 19 #[.slice ad m.length cap, .int .i64 k] (H) (fun v H' => (k ∉ m ∧ v = .tuple #[.slice ad m.length cap, .bool false] ∧ H' = H) ∨ (k ∈ m ∧ ∃ sv XB, v = .tuple #[sv, .bool true] ∧ OwnS 3 1 sv (drop1 m k).length ((drop1 m k).map (Value.int .i64)) XB ∧ H' = XB ++ H)) := by
  refine L_enter (l := [.slice ad m.length cap, .int .i64 k]) Try.func19 rfl Try.ntmps19 rfl rfl ?_
  refine W_sr ?_
  refine W_assign rfl rfl ?_
  refine W_assign rfl rfl ?_
  refine W_nil ?_
  refine W_sr ?_
  refine W_move rfl rfl ?_
  refine W_move rfl rfl ?_
  refine W_call (.cons rfl (.cons rfl .nil)) Try.call25 rfl ((rfind_L (by omega) hrow).hsub (.refl _)) ?_
  rintro v H' ⟨z, rfl, hz, hH⟩
  subst H'
  refine W_assign rfl rfl ?_
  refine W_nil ?_
  refine W_seq ?_
  refine W_sr ?_
  refine W_move rfl rfl ?_
  refine W_bin rfl rfl b_lss rfl ?_
  refine W_nil ?_
  refine W_condPS (p := z < 0) rfl (by simp) (fun q0 => ?_) (fun q0 => ?_)
  · skip
    refine W_sr ?_
    refine W_move rfl rfl ?_
    refine W_assign rfl rfl ?_
    refine W_assign rfl rfl ?_
    refine W_nil ?_
    refine W_ret2m (H2 := H) Try.results19 rfl rfl (.nil _) (by repeat (first | with_reducible exact HSub.refl _ | refine HSub.cons (by repeat (first | exact Take.here _ | apply Take.next | apply Take.app)) ?_ | refine HSub.app (by repeat (first | with_reducible exact TakeS.here _ | apply TakeS.next | apply TakeS.app)) ?_ | exact HSub.nil _ | exact HSub.refl _ | refine HSub.drop ?_ | refine HSub.dropS ?_)) ?_
    exact .inl ⟨hz.elim (fun ⟨i, h, _⟩ => by omega) (fun h => h.2), rfl, rfl⟩
  · skip
    refine W_skip ?_
    refine W_sr ?_
    obtain ⟨i, rfl, hx⟩ : ∃ i : Nat, z = i ∧ m[i]? = some k := hz.elim id (fun h => by omega)
    have hil := (List.getElem?_eq_some_iff.1 hx).1
    refine W_buildSlice (l := []) ty22 ty3 .nil rfl rfl rfl rfl rfl rfl rfl (fun b14 => ?_)
    refine W_move rfl rfl ?_
    refine W_move rfl rfl ?_
    refine W_slice0 (hh := i) rfl ty22 ty3 rfl ⟨_, rfl⟩ (by omega) rfl ?_
    refine W_append (news := (m.take i).map (Value.int .i64)) (m := i) (HB := [(b14, .cells 3 (0 * 1) [])]) (H0 := H) rfl rfl ty22 ty3 rfl (by decide) (OwnS.own rfl (Nat.le_refl 0) (by decide)) (by simp; omega) (by rw [List.map_take]; exact (hrow.up (by repeat (first | with_reducible exact HSub.refl _ | refine HSub.cons (by repeat (first | exact Take.here _ | apply Take.next | apply Take.app)) ?_ | refine HSub.app (by repeat (first | with_reducible exact TakeS.here _ | apply TakeS.next | apply TakeS.app)) ?_ | exact HSub.nil _ | exact HSub.refl _ | refine HSub.drop ?_ | refine HSub.dropS ?_))).take _) (ints_one _) (by simp only [maxLen]; omega) (by omega) (by repeat (first | with_reducible exact HSub.refl _ | refine HSub.cons (by repeat (first | exact Take.here _ | apply Take.next | apply Take.app)) ?_ | refine HSub.app (by repeat (first | with_reducible exact TakeS.here _ | apply TakeS.next | apply TakeS.app)) ?_ | exact HSub.nil _ | exact HSub.refl _ | refine HSub.drop ?_ | refine HSub.dropS ?_)) rfl (fun v1 HB1 hO1 => ?_)
    refine W_assign rfl rfl ?_
    refine W_nil ?_
    refine W_sr ?_
    refine W_move rfl rfl ?_
    refine W_move rfl rfl ?_
    refine W_move rfl rfl ?_
    refine W_bin rfl rfl (b_add (m := ((i + 1 : Nat) : Int)) ((i64w (by omega)).trans (by omega))) rfl ?_
    obtain ⟨q0, p0, rfl, -⟩ := hrow.at (i := i) (v := .int .i64 k) (by rw [List.getElem?_map, hx]; rfl)
    refine W_slice (l := i + 1) (hh := m.length) rfl ty22 ty3 ⟨_, rfl⟩ rfl (by omega) hcap rfl (fun o1 ho1 => ?_)
    rw [Nat.mul_one] at ho1
    refine W_append (news := (m.drop (i + 1)).map (Value.int .i64)) (m := m.length - (i + 1)) (HB := HB1) (H0 := H) rfl rfl ty22 ty3 rfl (by decide) hO1 (by simp) (by rw [List.map_drop]; exact (hrow.up (by repeat (first | with_reducible exact HSub.refl _ | refine HSub.cons (by repeat (first | exact Take.here _ | apply Take.next | apply Take.app)) ?_ | refine HSub.app (by repeat (first | with_reducible exact TakeS.here _ | apply TakeS.next | apply TakeS.app)) ?_ | exact HSub.nil _ | exact HSub.refl _ | refine HSub.drop ?_ | refine HSub.dropS ?_))).drop (by simpa using hcap) (fun h => ho1 h)) (ints_one _) (by simp only [maxLen]; omega) (by omega) (by repeat (first | with_reducible exact HSub.refl _ | refine HSub.cons (by repeat (first | exact Take.here _ | apply Take.next | apply Take.app)) ?_ | refine HSub.app (by repeat (first | with_reducible exact TakeS.here _ | apply TakeS.next | apply TakeS.app)) ?_ | exact HSub.nil _ | exact HSub.refl _ | refine HSub.drop ?_ | refine HSub.dropS ?_)) rfl (fun v2 HB2 hO2 => ?_)
    refine W_assign rfl rfl ?_
    refine W_assign rfl rfl ?_
    refine W_nil ?_
    refine W_ret2m (H2 := HB2 ++ H) Try.results19 rfl rfl (.nil _) (by repeat (first | with_reducible exact HSub.refl _ | refine HSub.cons (by repeat (first | exact Take.here _ | apply Take.next | apply Take.app)) ?_ | refine HSub.app (by repeat (first | with_reducible exact TakeS.here _ | apply TakeS.next | apply TakeS.app)) ?_ | exact HSub.nil _ | exact HSub.refl _ | refine HSub.drop ?_ | refine HSub.dropS ?_)) ?_
    refine .inr ⟨List.mem_of_getElem? hx, v2, HB2, rfl, ?_, rfl⟩
    rw [drop1_at hn hx, List.length_append, List.map_append, List.length_take, List.length_drop, Nat.min_eq_left (by omega)]
    have e0 : 0 + i + (m.length - (i + 1)) = i + (m.length - (i + 1)) := by omega
    rw [e0] at hO2
    exact hO2

theorem drop1_le {K : Type} [DecidableEq K] (m : List K) (k : K) : (drop1 m k).length ≤ m.length := List.length_filter_le _ _
set_option maxHeartbeats 1000000 in
theorem rtouch_L {w0 : World} {H : Heap} {m : List Int} {k : Int} {room : Nat} {ad : Option Addr} {cap : Nat} (hn : m.Nodup) (hm : m.length ≤ 1000000) (hle : m.length ≤ room) (hcap : m.length ≤ cap) (hrow : Holds w0 H ad (m.map (Value.int .i64)))  : LCalls Try.prog w0 8 #[.slice ad m.length cap, .int .i64 k, .int .i64 (room : Int)] (H) (fun v H' => (touch1 m room k = (m, 3) ∧ v = .tuple #[.slice ad m.length cap, .int .i64 3] ∧ H' = H) ∨ (touch1 m room k = (drop1 m k ++ [k], 0) ∧ ∃ sv XB, v = .tuple #[sv, .int .i64 0] ∧ OwnS 3 1 sv (drop1 m k ++ [k]).length ((drop1 m k ++ [k]).map (Value.int .i64)) XB ∧ H' = XB ++ H)) := by
  have hm : m.length ≤ 4611686018427 := by omega
  refine L_enter (l := [.slice ad m.length cap, .int .i64 k, .int .i64 (room : Int)]) Try.func8 rfl Try.ntmps8 rfl rfl ?_
  refine W_sr ?_
  refine W_assign rfl rfl ?_
  refine W_assign rfl rfl ?_
  refine W_nil ?_
  refine W_sr ?_
  refine W_move rfl rfl ?_
  refine W_move rfl rfl ?_
  refine W_call (.cons rfl (.cons rfl .nil)) Try.call19 rfl ((rdrop_L hn hm hcap hrow).hsub (.refl _)) ?_
  rintro v H' (⟨hk, rfl, hH⟩ | ⟨hk, sv, XB, rfl, hS, hH⟩) <;> subst H'
  · skip
    refine W_move rfl rfl ?_
    refine W_extract rfl rfl rfl ?_
    refine W_extract rfl rfl rfl ?_
    refine W_assign rfl rfl ?_
    refine W_assign rfl rfl ?_
    refine W_nil ?_
    refine W_seq ?_
    refine W_sr ?_
    refine W_move rfl rfl ?_
    refine W_not rfl rfl ?_
    refine W_move rfl rfl ?_
    refine W_gyes rfl rfl ?_
    refine W_move rfl rfl ?_
    refine W_gyes rfl rfl ?_
    refine W_len rfl ty22 rfl rfl ?_
    refine W_gyes rfl rfl ?_
    refine W_move rfl rfl ?_
    refine W_gyes rfl rfl ?_
    refine W_bin rfl rfl b_geq rfl ?_
    first | refine W_pickt rfl rfl rfl ?_ | refine W_pickf rfl rfl rfl ?_
    refine W_nil ?_
    refine W_condPS (p := (room : Int) ≤ (m.length : Int)) rfl (by simp) (fun q0 => ?_) (fun q0 => ?_)
    · skip
      refine W_sr ?_
      refine W_move rfl rfl ?_
      refine W_assign rfl rfl ?_
      refine W_assign rfl rfl ?_
      refine W_nil ?_
      refine W_ret2m (H2 := H) Try.results8 rfl rfl (.nil _) (by repeat (first | with_reducible exact HSub.refl _ | refine HSub.cons (by repeat (first | exact Take.here _ | apply Take.next | apply Take.app)) ?_ | refine HSub.app (by repeat (first | with_reducible exact TakeS.here _ | apply TakeS.next | apply TakeS.app)) ?_ | exact HSub.nil _ | exact HSub.refl _ | refine HSub.drop ?_ | refine HSub.dropS ?_)) ?_
      exact .inl ⟨if_pos ⟨hk, by omega⟩, rfl, rfl⟩
    · skip
      refine W_skip ?_
      refine W_sr ?_
      refine W_buildSlice (l := []) ty22 ty3 .nil rfl rfl rfl rfl rfl rfl rfl (fun b25 => ?_)
      refine W_move rfl rfl ?_
      refine W_append (news := (m).map (Value.int .i64)) (m := (m).length) (HB := [(b25, .cells 3 (0 * 1) [])]) (H0 := H) rfl rfl ty22 ty3 rfl (by decide) (OwnS.own rfl (Nat.le_refl 0) (by decide)) (by simp) (hrow.up (by repeat (first | with_reducible exact HSub.refl _ | refine HSub.cons (by repeat (first | exact Take.here _ | apply Take.next | apply Take.app)) ?_ | refine HSub.app (by repeat (first | with_reducible exact TakeS.here _ | apply TakeS.next | apply TakeS.app)) ?_ | exact HSub.nil _ | exact HSub.refl _ | refine HSub.drop ?_ | refine HSub.dropS ?_))) (ints_one _) (by have := drop1_le m k; simp only [maxLen]; omega) (by have := drop1_le m k; omega) (by repeat (first | with_reducible exact HSub.refl _ | refine HSub.cons (by repeat (first | exact Take.here _ | apply Take.next | apply Take.app)) ?_ | refine HSub.app (by repeat (first | with_reducible exact TakeS.here _ | apply TakeS.next | apply TakeS.app)) ?_ | exact HSub.nil _ | exact HSub.refl _ | refine HSub.drop ?_ | refine HSub.dropS ?_)) rfl (fun v1 HB1 hO1 => ?_)
      refine W_move rfl rfl ?_
      refine W_buildSlice (l := [.int .i64 k]) ty22 ty3 (.cons rfl rfl rfl rfl rfl .nil) rfl rfl rfl rfl rfl rfl rfl (fun b29 => ?_)
      refine W_append (news := [.int .i64 k]) (m := 1) (HB := HB1) (H0 := H) rfl rfl ty22 ty3 rfl (by decide) hO1 rfl (Holds.own List.mem_cons_self) rfl (by have := drop1_le m k; simp only [maxLen]; omega) (by have := drop1_le m k; omega) (by repeat (first | with_reducible exact HSub.refl _ | refine HSub.cons (by repeat (first | exact Take.here _ | apply Take.next | apply Take.app)) ?_ | refine HSub.app (by repeat (first | with_reducible exact TakeS.here _ | apply TakeS.next | apply TakeS.app)) ?_ | exact HSub.nil _ | exact HSub.refl _ | refine HSub.drop ?_ | refine HSub.dropS ?_)) rfl (fun v2 HB2 hO2 => ?_)
      refine W_assign rfl rfl ?_
      refine W_assign rfl rfl ?_
      refine W_nil ?_
      refine W_ret2m (H2 := HB2 ++ H) Try.results8 rfl rfl (.nil _) (by repeat (first | with_reducible exact HSub.refl _ | refine HSub.cons (by repeat (first | exact Take.here _ | apply Take.next | apply Take.app)) ?_ | refine HSub.app (by repeat (first | with_reducible exact TakeS.here _ | apply TakeS.next | apply TakeS.app)) ?_ | exact HSub.nil _ | exact HSub.refl _ | refine HSub.drop ?_ | refine HSub.dropS ?_)) ?_
      refine .inr ⟨if_neg (fun h => q0 (by have := h.2; omega)), v2, HB2, rfl, ?_, rfl⟩
      rw [drop1_not hk]
      rw [List.length_append, List.map_append]
      have e0 : 0 + (m).length + 1 = (m).length + [k].length := by simp
      rw [e0] at hO2
      exact hO2
  · skip
    refine W_move rfl rfl ?_
    refine W_extract rfl rfl rfl ?_
    refine W_extract rfl rfl rfl ?_
    refine W_assign rfl rfl ?_
    refine W_assign rfl rfl ?_
    refine W_nil ?_
    refine W_seq ?_
    refine W_sr ?_
    refine W_move rfl rfl ?_
    refine W_not rfl rfl ?_
    refine W_move rfl rfl ?_
    refine W_gno rfl rfl rfl ?_
    refine W_gno rfl rfl rfl ?_
    refine W_gno rfl rfl rfl ?_
    refine W_gno rfl rfl rfl ?_
    first | refine W_pickt rfl rfl rfl ?_ | refine W_pickf rfl rfl rfl ?_
    refine W_nil ?_
    refine W_condF rfl rfl ?_
    refine W_skip ?_
    refine W_sr ?_
    obtain ⟨a2, c2, rfl, _, _, hh2⟩ := Holds.of_own (w0 := w0) (H := XB ++ H) hS (fun p hp => List.mem_append_left _ hp)
    refine W_buildSlice (l := []) ty22 ty3 .nil rfl rfl rfl rfl rfl rfl rfl (fun b25 => ?_)
    refine W_move rfl rfl ?_
    refine W_append (news := (drop1 m k).map (Value.int .i64)) (m := (drop1 m k).length) (HB := [(b25, .cells 3 (0 * 1) [])]) (H0 := H) rfl rfl ty22 ty3 rfl (by decide) (OwnS.own rfl (Nat.le_refl 0) (by decide)) (by simp) (hh2.up (by repeat (first | with_reducible exact HSub.refl _ | refine HSub.cons (by repeat (first | exact Take.here _ | apply Take.next | apply Take.app)) ?_ | refine HSub.app (by repeat (first | with_reducible exact TakeS.here _ | apply TakeS.next | apply TakeS.app)) ?_ | exact HSub.nil _ | exact HSub.refl _ | refine HSub.drop ?_ | refine HSub.dropS ?_))) (ints_one _) (by have := drop1_le m k; simp only [maxLen]; omega) (by have := drop1_le m k; omega) (HSub.cons (Take.here _) (HSub.dropS (HSub.refl _))) rfl (fun v1 HB1 hO1 => ?_)
    refine W_move rfl rfl ?_
    refine W_buildSlice (l := [.int .i64 k]) ty22 ty3 (.cons rfl rfl rfl rfl rfl .nil) rfl rfl rfl rfl rfl rfl rfl (fun b29 => ?_)
    refine W_append (news := [.int .i64 k]) (m := 1) (HB := HB1) (H0 := H) rfl rfl ty22 ty3 rfl (by decide) hO1 rfl (Holds.own List.mem_cons_self) rfl (by have := drop1_le m k; simp only [maxLen]; omega) (by have := drop1_le m k; omega) (by repeat (first | with_reducible exact HSub.refl _ | refine HSub.cons (by repeat (first | exact Take.here _ | apply Take.next | apply Take.app)) ?_ | refine HSub.app (by repeat (first | with_reducible exact TakeS.here _ | apply TakeS.next | apply TakeS.app)) ?_ | exact HSub.nil _ | exact HSub.refl _ | refine HSub.drop ?_ | refine HSub.dropS ?_)) rfl (fun v2 HB2 hO2 => ?_)
    refine W_assign rfl rfl ?_
    refine W_assign rfl rfl ?_
    refine W_nil ?_
    refine W_ret2m (H2 := HB2 ++ H) Try.results8 rfl rfl (.nil _) (by repeat (first | with_reducible exact HSub.refl _ | refine HSub.cons (by repeat (first | exact Take.here _ | apply Take.next | apply Take.app)) ?_ | refine HSub.app (by repeat (first | with_reducible exact TakeS.here _ | apply TakeS.next | apply TakeS.app)) ?_ | exact HSub.nil _ | exact HSub.refl _ | refine HSub.drop ?_ | refine HSub.dropS ?_)) ?_
    refine .inr ⟨if_neg (fun h => h.1 hk), v2, HB2, rfl, ?_, rfl⟩
    rw [List.length_append, List.map_append]
    have e0 : 0 + (drop1 m k).length + 1 = (drop1 m k).length + [k].length := by simp
    rw [e0] at hO2
    exact hO2
end Go.Proofs.Ytknbohnoiigioaa
