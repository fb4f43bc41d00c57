/-
  Own work: contracts of functions that the statement reaches, and plain facts on what they compute; each theorem says its conditions.
-/
import Derived.Test.YtknbohnoiigioaaO10
set_option linter.all false
set_option linter.unusedSimpArgs false
set_option linter.unusedVariables false
namespace Go.Proofs.Ytknbohnoiigioaa
open Go Go.Sl
attribute [local irreducible] W

/-- the room that a law makes of a number -/
def rmOf (z : Int) : Nat := (1 + z % 64).toNat
theorem rmOf_ok (z : Int) : 1 ≤ rmOf z ∧ rmOf z ≤ 64 := by unfold rmOf; omega
theorem rmOf_is (z : Int) : IntKind.i64.wrap (1 + IntKind.i64.wrap ((IntKind.u64.wrap z).tmod 64)) = ((rmOf z : Nat) : Int) := by
  have e : IntKind.u64.wrap z = z % 18446744073709551616 := by simp [IntKind.wrap, IntKind.signed, IntKind.bits]
  have h0 : 0 ≤ z % 18446744073709551616 := Int.emod_nonneg _ (by decide)
  rw [e, Int.tmod_eq_emod_of_nonneg h0, Int.emod_emod_of_dvd z (by decide : (64 : Int) ∣ 18446744073709551616)]
  unfold rmOf
  rw [i64w (m := z % 64) (by omega), i64w (by omega)]
  omega
theorem nodup_touch {K : Type} [DecidableEq K] {m : List K} {k : K} (h : m.Nodup) : (drop1 m k ++ [k]).Nodup := by
  rw [List.nodup_append]
  refine ⟨h.filter _, by simp, fun a ha b hb => ?_⟩
  rw [List.mem_singleton.1 hb]
  exact (drop1_mem.1 ha).2
theorem touch1_le {K : Type} [DecidableEq K] {m : List K} {room : Nat} {k : K} (hn : m.Nodup) (hle : m.length ≤ room) (h : touch1 m room k = (drop1 m k ++ [k], 0)) : (drop1 m k ++ [k]).length ≤ room := by
  by_cases hk : k ∈ m
  · rw [← (drop1_perm hn hk).length_eq]; exact hle
  · have h3 : m.length ≠ room := fun e => by
      unfold touch1 at h
      rw [if_pos ⟨hk, e⟩] at h
      have h2 : (3 : Int) = 0 := congrArg Prod.snd h
      omega
    have := drop1_le m k
    rw [List.length_append, List.length_singleton]; omega
theorem touchL_at {K : Type} [DecidableEq K] {m : List K} {room i : Nat} {q : List K} {k : K} (hk : q[i]? = some k) : touchL m room (q.drop i) = if (touch1 m room k).2 = 0 then touchL (touch1 m room k).1 room (q.drop (i + 1)) else (m, 3) := by
  have hlt := (List.getElem?_eq_some_iff.1 hk).1
  have e : q.drop i = k :: q.drop (i + 1) := by
    rw [List.drop_eq_getElem_cons hlt]
    congr 1
    exact (List.getElem?_eq_some_iff.1 hk).2
  rw [e]; rfl
structure MS where
  i : Nat
  mv : Value
  m : List Int
  XB : Heap
  want : Int
set_option maxHeartbeats 1000000 in
theorem orderMany_pure {z : Int} {l : List Int} {ad : Option Addr} {cap : Nat} (hcap : l.length ≤ cap) : Pure Try.prog (fun w => InRow w ad (l.map (Value.int .i64))) 3 [.int .i64 z, .slice ad l.length cap] (.bool true) := by
  intro w0 H hT
  have hrow : Holds w0 H ad (l.map (Value.int .i64)) := Holds.old hT
  have hz := rmOf_ok z
  refine L_enter Try.func3 rfl Try.ntmps3 rfl rfl ?_
  refine W_sr ?_
  refine W_assign rfl rfl ?_
  refine W_nil ?_
  refine W_sr ?_
  refine W_move rfl rfl ?_
  refine W_conv rfl ty3 ty23 rfl rfl ?_
  refine W_bin rfl rfl (b_rem (by decide) rfl) rfl ?_
  refine W_conv rfl ty23 ty3 rfl rfl ?_
  refine W_bin rfl rfl (b_add (m := ((rmOf z : Nat) : Int)) (rmOf_is z)) rfl ?_
  refine W_assign rfl rfl ?_
  refine W_nil ?_
  refine W_sr ?_
  refine W_move rfl rfl ?_
  refine W_move rfl rfl ?_
  refine W_len rfl ty22 rfl rfl ?_
  refine W_min2 rfl rfl (m := ((min l.length 100 : Nat) : Int)) (by split <;> omega) rfl ?_
  refine W_slice0 (hh := min l.length 100) rfl ty22 ty3 rfl ⟨_, rfl⟩ (by omega) rfl ?_
  obtain ⟨q, hq⟩ : ∃ q, q = l.take 100 := ⟨_, rfl⟩
  have hql : min l.length 100 = q.length := by rw [hq, List.length_take, Nat.min_comm]
  have hq100 : q.length ≤ 100 := by omega
  have hr1 : Holds w0 H ad (q.map (Value.int .i64)) := by rw [hq, List.map_take]; exact hrow.take _
  rw [hql]
  refine W_assign rfl rfl ?_
  refine W_nil ?_
  refine W_sr ?_
  refine W_move rfl rfl ?_
  refine W_call (.cons rfl .nil) Try.call7 rfl (newI_L (H := H) (room := rmOf z) (rmOf_ok z)) ?_
  rintro v H' ⟨bo, bm, rfl, rfl⟩
  refine W_move rfl rfl ?_
  refine W_extract rfl rfl rfl ?_
  refine W_extract rfl rfl rfl ?_
  refine W_assign rfl rfl ?_
  refine W_assign rfl rfl ?_
  refine W_nil ?_
  refine W_seq ?_
  refine W_sr ?_
  refine W_move rfl rfl ?_
  refine W_bin rfl rfl b_neq rfl ?_
  refine W_nil ?_
  refine W_condF rfl rfl ?_
  refine W_skip ?_
  refine W_sr ?_
  refine W_assign rfl rfl ?_
  refine W_nil ?_
  refine W_sr ?_
  refine W_assign rfl rfl ?_
  refine W_nil ?_
  refine W_seq ?_
  refine W_sr ?_
  refine W_assign rfl rfl ?_
  refine W_nil ?_
  refine W_block ?_
  refine W_loopC (X := MS) [(0, _), (1, _), (5, _)] (fun (x : MS) => [(7, x.mv), (8, .int .i64 x.want), (9, .int .i64 (x.i : Int))]) (fun _ => _) (fun (x : MS) => (bo, .cells 57 3 [.int .i64 (rmOf z : Int), .int .i64 ((0 : Nat) : Int), .map (some bm)]) :: (bm, .obj (mapO (Value.int .i64) [] 0)) :: (x.XB ++ H)) (fun (x : MS) => x.i ≤ q.length ∧ OwnS 3 1 x.mv (x.m).length ((x.m).map (Value.int .i64)) x.XB ∧ x.m.Nodup ∧ x.m.length ≤ rmOf z ∧ ((x.want = 0 ∧ touchL [] (rmOf z) q = touchL x.m (rmOf z) (q.drop x.i)) ∨ (x.want = 3 ∧ touchL [] (rmOf z) q = (x.m, 3)))) (fun (x : MS) => q.length - x.i) ⟨0, .slice none 0 0, [], [], 0⟩ ⟨Nat.zero_le _, OwnS.nil, List.nodup_nil, Nat.zero_le _, .inl ⟨rfl, rfl⟩⟩ (sub_cons rfl (sub_cons rfl (sub_cons rfl (sub_nil _)))) (sub_cons rfl (sub_cons rfl (sub_cons rfl (sub_nil _)))) rfl (by repeat (first | with_reducible exact HSub.refl _ | refine HSub.cons (by repeat (first | exact Take.here _ | apply Take.next | apply Take.app)) ?_ | refine HSub.app (by repeat (first | with_reducible exact TakeS.here _ | apply TakeS.next | apply TakeS.app)) ?_ | exact HSub.nil _ | exact HSub.refl _ | refine HSub.drop ?_ | refine HSub.dropS ?_)) ?_
  rintro ⟨i, mv, m, XB, want⟩ ⟨hi, hS, hn, hle, hw⟩
  dsimp only at hi hS hn hle hw ⊢
  obtain ⟨am, cm, rfl, hcm, _, hmm⟩ := Holds.of_own (w0 := w0) (H := XB ++ []) hS (fun p hp => List.mem_append_left _ hp)
  simp only [List.cons_append, List.nil_append]
  refine W_seq ?_
  refine W_sr ?_
  refine W_move rfl rfl ?_
  refine W_move rfl rfl ?_
  refine W_len rfl ty22 rfl rfl ?_
  refine W_bin rfl rfl b_lss rfl ?_
  refine W_move rfl rfl ?_
  apply W_and
  iterate 4 exact rfl
  case h1 =>
    intro hg4
    refine W_gyes rfl rfl ?_
    refine W_move rfl rfl ?_
    refine W_gyes rfl rfl ?_
    refine W_bin rfl rfl b_eql rfl ?_
    exact W_met rfl (by repeat (first | exact .refl | refine .cons rfl ?_))
  refine W_nil ?_
  refine W_condPS (p := (i : Int) < (q.length : Int) ∧ want = 0) rfl (by simp) (fun g0 => ?_) (fun g0 => ?_)
  · skip
    refine W_skip ?_
    refine W_seq ?_
    refine W_block ?_
    refine W_region ?_
    obtain ⟨g1, rfl⟩ := g0
    obtain ⟨-, h0⟩ := hw.resolve_right (fun h => absurd h.1 (by decide))
    obtain ⟨k, hk⟩ : ∃ k, q[i]? = some k := ⟨_, List.getElem?_eq_getElem (by omega)⟩
    obtain ⟨q0, p0, rfl, hc⟩ := hr1.at (i := i) (v := .int .i64 k) (by rw [List.getElem?_map, hk]; rfl)
    refine W_move rfl rfl ?_
    refine W_move rfl rfl ?_
    refine W_move rfl rfl ?_
    refine W_indexAddr (j := i) rfl rfl ty22 ty3 rfl (by omega) rfl rfl ?_
    refine W_load (v := .int .i64 k) rfl ty3 rfl (by rw [Nat.mul_one]; exact hc.up (by repeat (first | with_reducible exact HSub.refl _ | refine HSub.cons (by repeat (first | exact Take.here _ | apply Take.next | apply Take.app)) ?_ | refine HSub.app (by repeat (first | with_reducible exact TakeS.here _ | apply TakeS.next | apply TakeS.app)) ?_ | exact HSub.nil _ | exact HSub.refl _ | refine HSub.drop ?_ | refine HSub.dropS ?_))) rfl ?_
    refine W_move rfl rfl ?_
    refine W_call (.cons rfl (.cons rfl (.cons rfl .nil))) Try.call8 rfl ((rtouch_L (room := rmOf z) (m := m) (k := k) hn (by omega) hle hcm (hmm.up (by first | exact HSub.cons (Take.here _) (HSub.refl _) | exact HSub.drop (HSub.drop (HSub.app (TakeS.here _) (HSub.nil _)))))).hsub (.refl _)) ?_
    rintro v H' (⟨ht, rfl, hH⟩ | ⟨ht, sv, XB2, rfl, hS2, hH⟩) <;> subst H'
    · skip
      refine W_move rfl rfl ?_
      refine W_extract rfl rfl rfl ?_
      refine W_extract rfl rfl rfl ?_
      refine W_assign rfl rfl ?_
      refine W_assign rfl rfl ?_
      refine W_nil ?_
      refine W_blk ?_
      refine W_region ?_
      refine W_move rfl rfl ?_
      refine W_bin rfl rfl (b_add (m := ((i + 1 : Nat) : Int)) ((i64w (by omega)).trans (by omega))) rfl ?_
      refine W_assign rfl rfl ?_
      refine W_nil ?_
      refine W_again ⟨i + 1, .slice am m.length cm, m, XB, 3⟩ ⟨by show i + 1 ≤ q.length; omega, hS, hn, hle, .inr ⟨rfl, by rw [h0, touchL_at hk, ht]; rfl⟩⟩ (by show q.length - (i + 1) < q.length - i; omega) (sub_cons rfl (sub_cons rfl (sub_cons rfl (sub_cons rfl (sub_cons rfl (sub_cons rfl (sub_nil _))))))) rfl (by repeat (first | with_reducible exact HSub.refl _ | refine HSub.cons (by repeat (first | exact Take.here _ | apply Take.next | apply Take.app)) ?_ | refine HSub.app (by repeat (first | with_reducible exact TakeS.here _ | apply TakeS.next | apply TakeS.app)) ?_ | exact HSub.nil _ | exact HSub.refl _ | refine HSub.drop ?_ | refine HSub.dropS ?_))
    · skip
      refine W_move rfl rfl ?_
      refine W_extract rfl rfl rfl ?_
      refine W_extract rfl rfl rfl ?_
      refine W_assign rfl rfl ?_
      refine W_assign rfl rfl ?_
      refine W_nil ?_
      refine W_blk ?_
      refine W_region ?_
      refine W_move rfl rfl ?_
      refine W_bin rfl rfl (b_add (m := ((i + 1 : Nat) : Int)) ((i64w (by omega)).trans (by omega))) rfl ?_
      refine W_assign rfl rfl ?_
      refine W_nil ?_
      refine W_again ⟨i + 1, sv, drop1 m k ++ [k], XB2, 0⟩ ⟨by show i + 1 ≤ q.length; omega, hS2, nodup_touch hn, touch1_le hn hle ht, .inl ⟨rfl, by rw [h0, touchL_at hk, ht]; rfl⟩⟩ (by show q.length - (i + 1) < q.length - i; omega) (sub_cons rfl (sub_cons rfl (sub_cons rfl (sub_cons rfl (sub_cons rfl (sub_cons rfl (sub_nil _))))))) rfl (by repeat (first | with_reducible exact HSub.refl _ | refine HSub.cons (by repeat (first | exact Take.here _ | apply Take.next | apply Take.app)) ?_ | refine HSub.app (by repeat (first | with_reducible exact TakeS.here _ | apply TakeS.next | apply TakeS.app)) ?_ | exact HSub.nil _ | exact HSub.refl _ | refine HSub.drop ?_ | refine HSub.dropS ?_))
  · skip
    refine W_exit rfl ?_
    refine W_sr ?_
    refine W_callp .nil Try.call9 rfl (T := fun _ => True) trivial known_pure ?_
    have hend : touchL [] (rmOf z) q = (m, want) := by
      rcases hw with ⟨rfl, h⟩ | ⟨rfl, h⟩
      · obtain rfl : i = q.length := by by_cases hlt : (i : Int) < (q.length : Int); exact absurd ⟨hlt, rfl⟩ g0; omega
        rw [h, List.drop_length]; rfl
      · exact h
    refine W_move rfl rfl ?_
    refine W_gyes rfl rfl ?_
    refine W_move rfl rfl ?_
    refine W_gyes rfl rfl ?_
    refine W_move rfl rfl ?_
    refine W_gyes rfl rfl ?_
    refine W_call (.cons rfl (.cons rfl .nil)) Try.call10 rfl ((touchI_L (bm := bm) (H := XB ++ H) (ks := q) (OrdIs.nil (rmOf z) 0 (fun _ => 0)) (by omega) (hr1.up (HSub.dropS (HSub.refl _)))).hsub (by repeat (first | with_reducible exact HSub.refl _ | refine HSub.cons (by repeat (first | exact Take.here _ | apply Take.next | apply Take.app)) ?_ | refine HSub.app (by repeat (first | with_reducible exact TakeS.here _ | apply TakeS.next | apply TakeS.app)) ?_ | exact HSub.nil _ | exact HSub.refl _ | refine HSub.drop ?_ | refine HSub.dropS ?_))) ?_
    rintro v H' ⟨last1, l1, c1, τ1, rfl, hO1, hl1, rfl⟩
    refine W_gyes rfl rfl ?_
    refine W_move rfl rfl ?_
    refine W_gyes rfl rfl ?_
    refine W_bin rfl rfl b_eql rfl ?_
    rw [show decide ((touchL [] (rmOf z) q).2 = want) = true from decide_eq_true (by rw [hend])]
    first | refine W_pickt rfl rfl rfl ?_ | refine W_pickf rfl rfl rfl ?_
    refine W_move rfl rfl ?_
    refine W_gyes rfl rfl ?_
    refine W_move rfl rfl ?_
    refine W_gyes rfl rfl ?_
    refine W_call (.cons rfl .nil) Try.call12 rfl ((ListI_L (H := XB ++ H) hO1 (rmOf_ok z).2).hsub (by repeat (first | with_reducible exact HSub.refl _ | refine HSub.cons (by repeat (first | exact Take.here _ | apply Take.next | apply Take.app)) ?_ | refine HSub.app (by repeat (first | with_reducible exact TakeS.here _ | apply TakeS.next | apply TakeS.app)) ?_ | exact HSub.nil _ | exact HSub.refl _ | refine HSub.drop ?_ | refine HSub.dropS ?_))) ?_
    rintro v H' ⟨sv, XB3, rfl, hS3, rfl⟩
    obtain ⟨a3, c3, rfl, _, _, hh⟩ := Holds.of_own (w0 := w0) (H := XB3 ++ []) hS3 (fun p hp => List.mem_append_left _ hp)
    refine W_gyes rfl rfl ?_
    refine W_move rfl rfl ?_
    refine W_gyes rfl rfl ?_
    have hm3 : (touchL [] (rmOf z) q).1.length ≤ 64 := Nat.le_trans hO1.le (rmOf_ok z).2
    refine W_callq (.cons rfl (.cons rfl .nil)) Try.call11 rfl (same_q (l := (touchL [] (rmOf z) q).1) (r := m) (hh.up (HSub.app (TakeS.here _) (HSub.nil _))) (hmm.up (HSub.app (TakeS.app (TakeS.next (TakeS.next (TakeS.here _)))) (HSub.nil _))) (by omega)) ?_
    rw [show decide ((touchL [] (rmOf z) q).1 = m) = true from decide_eq_true (by rw [hend])]
    first | refine W_pickt rfl rfl rfl ?_ | refine W_pickf rfl rfl rfl ?_
    refine W_assign rfl rfl ?_
    refine W_nil ?_
    refine W_ret1m (H2 := H) Try.results3 rfl (.nil _) (by repeat (first | with_reducible exact HSub.refl _ | refine HSub.cons (by repeat (first | exact Take.here _ | apply Take.next | apply Take.app)) ?_ | refine HSub.app (by repeat (first | with_reducible exact TakeS.here _ | apply TakeS.next | apply TakeS.app)) ?_ | exact HSub.nil _ | exact HSub.refl _ | refine HSub.drop ?_ | refine HSub.dropS ?_)) ?_
    exact ⟨rfl, rfl⟩
end Go.Proofs.Ytknbohnoiigioaa
