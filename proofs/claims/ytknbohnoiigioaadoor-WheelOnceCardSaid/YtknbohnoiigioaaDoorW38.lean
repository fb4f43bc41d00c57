/-
  Own work: contracts of functions that the statement reaches, and plain facts on what they compute; each theorem says its conditions.
-/
import Derived.Test.YtknbohnoiigioaaDoorW35toW37
set_option linter.all false
set_option linter.unusedSimpArgs false
set_option linter.unusedVariables false
namespace Go.Proofs.YtknbohnoiigioaaDoor
open Go Go.Sl
attribute [local irreducible] W
theorem place_ge {now a : Nat} (hn : now < 18446744073709551615) : now < (placeT now a).1.at_ ∧ (placeT now a).1.at_ ≤ (placeT now a).1.due := by
  have e : placeT now a = _ := if_neg (by omega)
  rw [e]
  dsimp only
  have ht1 : now < clampT now a 132120575 := by unfold clampT addT; split <;> split <;> omega
  have ht3 : clampT now a 132120575 ≤ 18446744073709551615 := clampT_le _ _ _
  generalize clampT now a 132120575 = t at *
  refine ⟨ht1, ?_⟩
  generalize (lvOf (t - now)).1 = n
  have hc := (ceilT_is (t := t) (n := n)).1
  show t ≤ tickT (ceilT t n) n
  unfold tickT
  split <;> omega
theorem heldB_filter {L : List Tm} (hn : (L.map (·.id)).Nodup) {O Li : List Tm} {m : Nat} (hl : Li = L.filter (fun t => decide (m < t.s.due))) (hp : O.Perm (L.filter (fun t => decide (t.s.due ≤ m)))) (j : Int) : (!heldB L j || O.any (fun t => decide (t.id = j))) = !heldB Li j := by
  by_cases hin : j ∈ L.map (·.id)
  · rw [heldB_iff.2 hin]
    obtain ⟨t, ht, rfl⟩ := List.mem_map.1 hin
    by_cases c : m < t.s.due
    · have h1 : heldB Li t.id = true := heldB_iff.2 (List.mem_map_of_mem (by rw [hl]; exact List.mem_filter.2 ⟨ht, decide_eq_true c⟩))
      have h2 : O.any (fun u => decide (u.id = t.id)) = false := by
        rw [List.any_eq_false]
        intro u hu e
        have hu2 := List.mem_filter.1 (hp.mem_iff.1 hu)
        obtain rfl := tm_uniq hn hu2.1 ht (of_decide_eq_true e)
        have := of_decide_eq_true hu2.2; omega
      rw [h1, h2]; rfl
    · have h1 : heldB Li t.id = false := by
        cases hb : heldB Li t.id with
        | false => rfl
        | true =>
          obtain ⟨u, hu, e⟩ := List.mem_map.1 (heldB_iff.1 hb)
          rw [hl] at hu
          have hu2 := List.mem_filter.1 hu
          obtain rfl := tm_uniq hn hu2.1 ht e
          exact absurd (of_decide_eq_true hu2.2) c
      have h2 : O.any (fun u => decide (u.id = t.id)) = true := List.any_eq_true.2 ⟨t, hp.mem_iff.2 (List.mem_filter.2 ⟨ht, decide_eq_true (by omega)⟩), decide_eq_true rfl⟩
      rw [h1, h2]; rfl
  · have h0 : ∀ {M : List Tm}, (∀ t ∈ M, t ∈ L) → heldB M j = false := fun {M} hM => by
      cases hb : heldB M j with
      | false => rfl
      | true =>
        obtain ⟨u, hu, e⟩ := List.mem_map.1 (heldB_iff.1 hb)
        exact absurd (e ▸ List.mem_map_of_mem (hM u hu)) hin
    rw [h0 (fun t h => h), h0 (M := Li) (fun t h => by rw [hl] at h; exact (List.mem_filter.1 h).1)]; rfl
/-- the tick of a law's step -/
def toT (s : List Int) (i : Nat) : Nat := if (i : Int) < (s.length : Int) ∧ (i : Int) < 60 then (s.getD i 0).toNat else 18446744073709551615
theorem any_take {O : List Tm} {k : Nat} {t : Tm} (h : O[k]? = some t) (j : Int) : (O.take (k + 1)).any (fun u => decide (u.id = j)) = ((O.take k).any (fun u => decide (u.id = j)) || decide (t.id = j)) := by
  rw [takeAt h, List.any_append]; simp
structure OnS where
  i : Nat
  nw : Nat
  Li : List Tm
  O : List Tm
  OB : List Bool
  HW : Heap
set_option maxHeartbeats 4000000 in
theorem wheelOnce_M {now : Nat} {l s : List Int} {ad as_ : Option Addr} {cap caps : Nat} (hwf : ∀ b ∈ l, 0 ≤ b ∧ b ≤ 18446744073709551615) (hwfs : ∀ b ∈ s, 0 ≤ b ∧ b ≤ 18446744073709551615) (hcap : l.length ≤ 9223372036854775807) (hcaps : s.length ≤ 9223372036854775807) : Pure Tryd.prog (fun w => Tab w ∧ InRow w ad (l.map (Value.int .u64)) ∧ InRow w as_ (s.map (Value.int .u64))) 5 [.int .u64 ((18446744073709551615 : Nat) : Int), .slice ad l.length cap, .slice as_ s.length caps] (.bool true) := by
  intro w0 H hT
  have hrow : Holds w0 H ad (l.map (Value.int .u64)) := Holds.old hT.2.1
  have hrows : Holds w0 H as_ (s.map (Value.int .u64)) := Holds.old hT.2.2
  replace hT := hT.1
  refine L_enter Tryd.func5 rfl Tryd.ntmps5 rfl rfl ?_
  refine W_sr ?_
  refine W_assign rfl rfl ?_
  refine W_nil ?_
  refine W_sr ?_
  refine W_move rfl rfl ?_
  refine W_call (.cons rfl .nil) Tryd.call13 rfl ((New_W (now := 18446744073709551615) (H := H)).hsub (by repeat (first | with_reducible exact HSub.refl _ | refine HSub.cons (by repeat (first | exact Take.here _ | apply Take.next | apply Take.app)) ?_ | refine HSub.app (by repeat (first | with_reducible exact TakeS.here _ | apply TakeS.next | apply TakeS.app)) ?_ | exact HSub.nil _ | exact HSub.refl _ | refine HSub.drop ?_ | refine HSub.dropS ?_))) ?_
  rintro v H' ⟨bw1, HW1, rfl, hW1, rfl⟩
  refine W_assign rfl rfl ?_
  refine W_nil ?_
  refine W_sr ?_
  refine W_move rfl rfl ?_
  refine W_len rfl ty23 rfl rfl ?_
  refine W_min2 rfl rfl (m := ((min l.length 100 : Nat) : Int)) (by split <;> omega) rfl ?_
  obtain ⟨n, hn⟩ : ∃ n, n = min l.length 100 := ⟨_, rfl⟩
  rw [← hn]
  refine W_assign rfl rfl ?_
  refine W_nil ?_
  refine W_seq ?_
  refine W_sr ?_
  refine W_move rfl rfl ?_
  refine W_bin rfl rfl b_eql rfl ?_
  refine W_nil ?_
  refine W_condT rfl rfl ?_
  refine W_sr ?_
  refine W_move rfl rfl ?_
  refine W_move rfl rfl ?_
  refine W_call (.cons rfl (.cons rfl (.cons rfl .nil))) Tryd.call14 rfl (Put_late (id := 0) (a := 18446744073709551615) hW1 (by decide) (Nat.le_refl _) (by simp)) ?_
  rintro v H' ⟨rfl, rfl⟩
  refine W_move rfl rfl ?_
  refine W_extract rfl rfl rfl ?_
  refine W_extract rfl rfl rfl ?_
  refine W_alloc (l := zSpot.v) ty27 rfl rfl (fun b9 => ?_)
  refine W_storeA (l' := zSpot.v) rfl rfl ty27 rfl rfl (b := b9) (by repeat (first | exact List.mem_cons_self | apply List.mem_cons_of_mem | apply List.mem_append_right)) (by exact Nat.le_refl 4) rfl (by repeat (first | exact Upd.head _ | apply Upd.tail | apply Upd.app)) ?_
  refine W_assign rfl rfl ?_
  refine W_nil ?_
  refine W_sr ?_
  refine W_callp .nil Tryd.call16 rfl hT known_pure ?_
  refine W_move rfl rfl ?_
  refine W_gyes rfl rfl ?_
  refine W_move rfl rfl ?_
  refine W_gyes rfl rfl ?_
  refine W_bin rfl rfl b_eql rfl ?_
  first | refine W_pickt rfl rfl rfl ?_ | refine W_pickf rfl rfl rfl ?_
  refine W_assign rfl rfl ?_
  refine W_nil ?_
  refine W_ret1m (H2 := H) Tryd.results5 rfl (.nil _) (by repeat (first | with_reducible exact HSub.refl _ | refine HSub.cons (by repeat (first | exact Take.here _ | apply Take.next | apply Take.app)) ?_ | refine HSub.app (by repeat (first | with_reducible exact TakeS.here _ | apply TakeS.next | apply TakeS.app)) ?_ | exact HSub.nil _ | exact HSub.refl _ | refine HSub.drop ?_ | refine HSub.dropS ?_)) ?_
  exact ⟨rfl, rfl⟩
theorem set_upto {α : Type} {DU : List α} {f : Nat → α} {q : Nat} (h : ∀ j, j < q → DU[j]? = some (f j)) (hq : q < DU.length) : ∀ j, j < q + 1 → (DU.set q (f q))[j]? = some (f j) := fun j hj => by
  by_cases e : q = j
  · subst e; exact List.getElem?_set_self hq
  · rw [List.getElem?_set_ne e]; exact h j (by omega)
theorem toT_le {s : List Int} (h : ∀ b ∈ s, 0 ≤ b ∧ b ≤ 18446744073709551615) (i : Nat) : toT s i ≤ 18446744073709551615 := by
  unfold toT
  split
  · rename_i hc
    have hi : i < s.length := by omega
    have := h s[i] (List.getElem_mem hi)
    rw [List.getD_eq_getElem?_getD, List.getElem?_eq_getElem hi]
    simp only [Option.getD_some]
    omega
  · exact Nat.le_refl _
theorem set_true {OBq : List Bool} {n m : Nat} {f : Nat → Bool} {g : Nat → Bool} (h : ∀ j, j < n → OBq[j]? = some (f j || g j)) (hm : m < n) (hl : m < OBq.length) : ∀ j, j < n → (OBq.set m true)[j]? = some (f j || (g j || decide ((m : Int) = (j : Int)))) := fun j hj => by
  by_cases e : m = j
  · subst e
    rw [List.getElem?_set_self hl]; simp
  · rw [List.getElem?_set_ne e, h j hj, decide_eq_false (by omega), Bool.or_false]
theorem now_q2 {w0 : World} {H HW : Heap} {bw now turn : Nat} {L : List Tm} (hW : WheelH bw now L turn HW) (hm : ∀ p ∈ HW, p ∈ H) : PureAt Tryd.prog w0 H 19 [.pointer (some ⟨bw, 0, none⟩)] (.int .u64 ((now : Nat) : Int)) := by
  cases hW with
  | @mk bm c sl XS bs l h => exact Now_q (sl := sl) (bs := bs) (bm := bm) (turn := turn) (hm _ List.mem_cons_self)
set_option maxHeartbeats 8000000 in
theorem wheelOnce_L {now : Nat} {l s : List Int} {ad as_ : Option Addr} {cap caps : Nat} (hwf : ∀ b ∈ l, 0 ≤ b ∧ b ≤ 18446744073709551615) (hwfs : ∀ b ∈ s, 0 ≤ b ∧ b ≤ 18446744073709551615) (hcap : l.length ≤ 9223372036854775807) (hcaps : s.length ≤ 9223372036854775807) (hnow : now < 18446744073709551615) : Pure Tryd.prog (fun w => Tab w ∧ InRow w ad (l.map (Value.int .u64)) ∧ InRow w as_ (s.map (Value.int .u64))) 5 [.int .u64 ((now : Nat) : Int), .slice ad l.length cap, .slice as_ s.length caps] (.bool true) := by
  intro w0 H hT
  have hrow : Holds w0 H ad (l.map (Value.int .u64)) := Holds.old hT.2.1
  have hrows : Holds w0 H as_ (s.map (Value.int .u64)) := Holds.old hT.2.2
  replace hT := hT.1
  refine L_enter Tryd.func5 rfl Tryd.ntmps5 rfl rfl ?_
  refine W_sr ?_
  refine W_assign rfl rfl ?_
  refine W_nil ?_
  refine W_sr ?_
  refine W_move rfl rfl ?_
  refine W_call (.cons rfl .nil) Tryd.call13 rfl ((New_W (now := now) (H := H)).hsub (by repeat (first | with_reducible exact HSub.refl _ | refine HSub.cons (by repeat (first | exact Take.here _ | apply Take.next | apply Take.app)) ?_ | refine HSub.app (by repeat (first | with_reducible exact TakeS.here _ | apply TakeS.next | apply TakeS.app)) ?_ | exact HSub.nil _ | exact HSub.refl _ | refine HSub.drop ?_ | refine HSub.dropS ?_))) ?_
  rintro v H' ⟨bw1, HW1, rfl, hW1, rfl⟩
  refine W_assign rfl rfl ?_
  refine W_nil ?_
  refine W_sr ?_
  refine W_move rfl rfl ?_
  refine W_len rfl ty23 rfl rfl ?_
  refine W_min2 rfl rfl (m := ((min l.length 100 : Nat) : Int)) (by split <;> omega) rfl ?_
  obtain ⟨n, hn⟩ : ∃ n, n = min l.length 100 := ⟨_, rfl⟩
  rw [← hn]
  refine W_assign rfl rfl ?_
  refine W_nil ?_
  refine W_seq ?_
  refine W_sr ?_
  refine W_move rfl rfl ?_
  refine W_bin rfl rfl b_eql rfl ?_
  refine W_nil ?_
  refine W_condF rfl (decide_eq_false (by omega)) ?_
  refine W_skip ?_
  refine W_seq ?_
  refine W_sr ?_
  refine W_assign rfl rfl ?_
  refine W_nil ?_
  refine W_block ?_
  refine W_loopC (X := (Nat × Heap)) [(0, _), (1, _), (2, _), (7, _), (8, _)] (fun (x : (Nat × Heap)) => [(11, .int .i64 (x.1 : Int))]) (fun _ => _) (fun (x : (Nat × Heap)) => x.2 ++ H) (fun (x : (Nat × Heap)) => x.1 ≤ n ∧ WheelH bw1 now (putsT now l x.1) x.1 x.2) (fun (x : (Nat × Heap)) => n - x.1) (0, HW1) ⟨Nat.zero_le _, hW1⟩ (sub_cons rfl (sub_cons rfl (sub_cons rfl (sub_cons rfl (sub_cons rfl (sub_nil _)))))) (sub_cons rfl (sub_nil _)) rfl (.refl _) ?_
  rintro ⟨i, HWi⟩ ⟨hi, hWi⟩
  dsimp only at hi hWi ⊢
  simp only [List.cons_append, List.nil_append]
  refine W_seq ?_
  refine W_sr ?_
  refine W_move rfl rfl ?_
  refine W_move rfl rfl ?_
  refine W_bin rfl rfl b_lss rfl ?_
  refine W_nil ?_
  refine W_condPS (p := (i : Int) < (n : Int)) rfl (by simp) (fun q0 => ?_) (fun q0 => ?_)
  · skip
    refine W_skip ?_
    refine W_seq ?_
    refine W_block ?_
    refine W_sr ?_
    obtain ⟨x_a, hx_a⟩ : ∃ x, l[i]? = some x := ⟨_, List.getElem?_eq_getElem (by omega)⟩
    obtain ⟨q0, p0, rfl, hc⟩ := hrow.at (i := i) (v := .int .u64 x_a) (by rw [List.getElem?_map, hx_a]; rfl)
    have ha0 := hwf x_a (List.mem_of_getElem? hx_a)
    have hg_a : (l.getD i 0) = x_a := by rw [List.getD_eq_getElem?_getD, hx_a]; rfl
    obtain ⟨a, rfl⟩ : ∃ a : Nat, x_a = (a : Int) := ⟨x_a.toNat, by omega⟩
    have ha : a ≤ 18446744073709551615 := by omega
    refine W_move rfl rfl ?_
    refine W_move rfl rfl ?_
    refine W_move rfl rfl ?_
    refine W_move rfl rfl ?_
    refine W_indexAddr (j := i) rfl rfl ty23 ty22 rfl (by omega) rfl rfl ?_
    refine W_load (v := .int .u64 ((a : Nat) : Int)) rfl ty22 rfl (by rw [Nat.mul_one]; exact hc.up (by repeat (first | with_reducible exact HSub.refl _ | refine HSub.cons (by repeat (first | exact Take.here _ | apply Take.next | apply Take.app)) ?_ | refine HSub.app (by repeat (first | with_reducible exact TakeS.here _ | apply TakeS.next | apply TakeS.app)) ?_ | exact HSub.nil _ | exact HSub.refl _ | refine HSub.drop ?_ | refine HSub.dropS ?_))) rfl ?_
    refine W_call (.cons rfl (.cons rfl (.cons rfl .nil))) Tryd.call14 rfl ((Put_L (id := (i : Int)) (a := a) hWi hnow ha (by omega) (puts_new now l i) (by omega)).hsub (.refl _)) ?_
    rintro v H' ⟨HW', hW', rfl, rfl⟩
    have hpg := place_ge (a := a) hnow
    refine W_move rfl rfl ?_
    refine W_extract rfl rfl rfl ?_
    refine W_extract rfl rfl rfl ?_
    refine W_alloc (l := zSpot.v) ty27 rfl rfl (fun b12 => ?_)
    refine W_storeA (l' := (placeT now a).1.v) rfl rfl ty27 rfl rfl (b := b12) (by repeat (first | exact List.mem_cons_self | apply List.mem_cons_of_mem | apply List.mem_append_right)) (by exact Nat.le_refl 4) rfl (by repeat (first | exact Upd.head _ | apply Upd.tail | apply Upd.app)) ?_
    refine W_assign rfl rfl ?_
    refine W_nil ?_
    refine W_sr ?_
    refine W_move rfl rfl ?_
    refine W_bin rfl rfl b_neq rfl ?_
    refine W_move rfl rfl ?_
    refine W_gyes rfl rfl ?_
    refine W_fieldAddr rfl fld27_3 (by decide) rfl ?_
    refine W_gyes rfl rfl ?_
    refine W_load rfl ty22 rfl (Cell.own (by repeat (first | exact List.mem_cons_self | apply List.mem_cons_of_mem | apply List.mem_append_right)) rfl) rfl ?_
    refine W_gyes rfl rfl ?_
    refine W_fieldAddr rfl fld27_2 (by decide) rfl ?_
    refine W_gyes rfl rfl ?_
    refine W_load rfl ty22 rfl (Cell.own (by repeat (first | exact List.mem_cons_self | apply List.mem_cons_of_mem | apply List.mem_append_right)) rfl) rfl ?_
    refine W_gyes rfl rfl ?_
    refine W_bin rfl rfl b_lss rfl ?_
    rw [decide_eq_false (by omega)]
    first | refine W_pickt rfl rfl rfl ?_ | refine W_pickf rfl rfl rfl ?_
    refine W_move rfl rfl ?_
    refine W_gyes rfl rfl ?_
    refine W_fieldAddr rfl fld27_2 (by decide) rfl ?_
    refine W_gyes rfl rfl ?_
    refine W_load rfl ty22 rfl (Cell.own (by repeat (first | exact List.mem_cons_self | apply List.mem_cons_of_mem | apply List.mem_append_right)) rfl) rfl ?_
    refine W_gyes rfl rfl ?_
    refine W_move rfl rfl ?_
    refine W_gyes rfl rfl ?_
    refine W_bin rfl rfl b_leq rfl ?_
    rw [decide_eq_false (by omega)]
    first | refine W_pickt rfl rfl rfl ?_ | refine W_pickf rfl rfl rfl ?_
    refine W_nil ?_
    refine W_condF rfl rfl ?_
    refine W_skip ?_
    refine W_blk ?_
    refine W_region ?_
    refine W_move rfl rfl ?_
    refine W_bin rfl rfl (b_add (m := ((i + 1 : Nat) : Int)) ((i64w (by omega)).trans (by omega))) rfl ?_
    refine W_assign rfl rfl ?_
    refine W_nil ?_
    refine W_again (i + 1, HW') ⟨by show i + 1 ≤ n; omega, by show WheelH bw1 now (putsT now l (i + 1)) (i + 1) HW'; rw [show (putsT now l (i + 1)) = (putsT now l i) ++ [tmOf now a i (i : Int)] from by show _ ++ [tmOf now (l.getD i 0).toNat i (i : Int)] = _; rw [hg_a]; rfl]; exact hW'⟩ (by show n - (i + 1) < n - i; omega) (sub_cons rfl (sub_cons rfl (sub_cons rfl (sub_cons rfl (sub_cons rfl (sub_cons rfl (sub_nil _))))))) rfl (by repeat (first | with_reducible exact HSub.refl _ | refine HSub.drop ?_))
  · skip
    refine W_exit rfl ?_
    refine W_sr ?_
    obtain rfl : n = i := by omega
    obtain ⟨L, hL⟩ : ∃ L, L = (putsT now l n) := ⟨_, rfl⟩
    have hLi : L.map (·.id) = (List.range n).map (fun j : Nat => (j : Int)) := by rw [hL]; exact puts_ids _ _ _
    rw [← hL] at hWi
    clear hL
    have hids := hWi.ids
    have hstart : Gone now now L L [] := Gone.start (hWi.later hnow)
    have hall : ∀ k : Nat, k < n → heldB L (k : Int) = true := fun k hk => heldB_iff.2 (by rw [hLi, List.mem_map]; exact ⟨k, List.mem_range.2 hk, rfl⟩)
    have hrng : ∀ t ∈ L, ∃ k : Nat, t.id = (k : Int) ∧ k < n := fun t ht => by
      have : t.id ∈ L.map (·.id) := List.mem_map_of_mem ht
      rw [hLi, List.mem_map] at this
      obtain ⟨k, hk, e⟩ := this
      exact ⟨k, e.symm, List.mem_range.1 hk⟩
    obtain ⟨tn, htn⟩ : ∃ tn, tn = n := ⟨_, rfl⟩
    rw [← htn] at hWi
    clear htn
    refine W_alloc (l := (List.replicate 100 false).map Value.bool) ty39 rfl (by decide) (fun b14 => ?_)
    refine W_nil ?_
    refine W_seq ?_
    refine W_sr ?_
    refine W_assign rfl rfl ?_
    refine W_nil ?_
    refine W_block ?_
    refine W_loopC (X := OnS) [(2, _), (7, _), (8, _), (14, _)] (fun (x : OnS) => [(15, .int .i64 (x.i : Int))]) (fun _ => _) (fun (x : OnS) => (b14, .cells 39 100 ((x.OB).map Value.bool)) :: (x.HW ++ H)) (fun (x : OnS) => x.i ≤ s.length + 1 ∧ x.i ≤ 61 ∧ WheelH bw1 x.nw x.Li tn x.HW ∧ Gone now x.nw L x.Li x.O ∧ (x.OB).length = 100 ∧ (∀ k : Nat, k < n → (x.OB)[k]? = some (!heldB x.Li (k : Int))) ∧ (s.length < x.i ∨ 60 < x.i → x.nw = 18446744073709551615) ∧ x.nw ≤ 18446744073709551615) (fun (x : OnS) => s.length + 1 - x.i) ⟨0, now, L, [], List.replicate 100 false, HWi⟩ ⟨Nat.zero_le _, Nat.zero_le _, hWi, hstart, List.length_replicate, fun k hk => by rw [hall k hk, List.getElem?_replicate, if_pos (by omega)]; rfl, fun h => absurd h (by show ¬ (s.length < 0 ∨ 60 < 0); omega), Nat.le_of_lt hnow⟩ (sub_cons rfl (sub_cons rfl (sub_cons rfl (sub_cons rfl (sub_nil _))))) (sub_cons rfl (sub_nil _)) rfl (.refl _) ?_
    rintro ⟨k, nw, Li, O, OB, HW⟩ ⟨hk, hk2, hWw, hG, hOl, hOB, hfin, hnwm⟩
    dsimp only at hk hk2 hWw hG hOl hOB hfin hnwm ⊢
    have hidw := hWw.ids
    simp only [List.cons_append, List.nil_append]
    refine W_seq ?_
    refine W_sr ?_
    refine W_move rfl rfl ?_
    refine W_move rfl rfl ?_
    refine W_len rfl ty23 rfl rfl ?_
    refine W_bin rfl rfl b_leq rfl ?_
    refine W_move rfl rfl ?_
    apply W_and
    iterate 4 exact rfl
    case h1 =>
      intro hg4
      refine W_gyes rfl rfl ?_
      refine W_move rfl rfl ?_
      refine W_gyes rfl rfl ?_
      refine W_bin rfl rfl b_leq rfl ?_
      exact W_met rfl (by repeat (first | exact .refl | refine .cons rfl ?_))
    refine W_nil ?_
    refine W_condPS (p := (k : Int) ≤ (s.length : Int) ∧ (k : Int) ≤ 60) rfl (by first | exact Iff.rfl | simp) (fun q1 => ?_) (fun q1 => ?_)
    · skip
      refine W_skip ?_
      refine W_seq ?_
      refine W_block ?_
      refine W_sr ?_
      refine W_assign rfl rfl ?_
      refine W_nil ?_
      refine W_seq ?_
      refine W_sr ?_
      refine W_move rfl rfl ?_
      refine W_move rfl rfl ?_
      refine W_len rfl ty23 rfl rfl ?_
      refine W_bin rfl rfl b_lss rfl ?_
      refine W_move rfl rfl ?_
      apply W_and
      iterate 4 exact rfl
      case h1 =>
        intro hg4
        refine W_gyes rfl rfl ?_
        refine W_move rfl rfl ?_
        refine W_gyes rfl rfl ?_
        refine W_bin rfl rfl b_lss rfl ?_
        exact W_met rfl (by repeat (first | exact .refl | refine .cons rfl ?_))
      refine W_nil ?_
      refine W_condJ (p := (k : Int) < (s.length : Int) ∧ (k : Int) < 60) [(2, .slice as_ s.length caps), (7, .pointer (some ⟨bw1, 0, none⟩)), (8, .int .i64 (n : Int)), (14, .pointer (some ⟨b14, 0, none⟩)), (15, .int .i64 (k : Int)), (16, .int .u64 ((toT s k : Nat) : Int))] ((b14, .cells 39 100 ((OB).map Value.bool)) :: (HW ++ H)) rfl (by first | exact Iff.rfl | simp) (fun q2 => ?_) (fun q2 => ?_) ?_
      · skip
        refine W_region ?_
        obtain ⟨x_a, hx_a⟩ : ∃ x, s[k]? = some x := ⟨_, List.getElem?_eq_getElem (by omega)⟩
        obtain ⟨q0, p0, rfl, hc⟩ := hrows.at (i := k) (v := .int .u64 x_a) (by rw [List.getElem?_map, hx_a]; rfl)
        have ha0 := hwfs x_a (List.mem_of_getElem? hx_a)
        have hg_a : (s.getD k 0) = x_a := by rw [List.getD_eq_getElem?_getD, hx_a]; rfl
        obtain ⟨a, rfl⟩ : ∃ a : Nat, x_a = (a : Int) := ⟨x_a.toNat, by omega⟩
        have ha : a ≤ 18446744073709551615 := by omega
        refine W_move rfl rfl ?_
        refine W_move rfl rfl ?_
        refine W_indexAddr (j := k) rfl rfl ty23 ty22 rfl (by omega) rfl rfl ?_
        refine W_load (v := .int .u64 ((a : Nat) : Int)) rfl ty22 rfl (by rw [Nat.mul_one]; exact hc.up (by repeat (first | with_reducible exact HSub.refl _ | refine HSub.cons (by repeat (first | exact Take.here _ | apply Take.next | apply Take.app)) ?_ | refine HSub.app (by repeat (first | with_reducible exact TakeS.here _ | apply TakeS.next | apply TakeS.app)) ?_ | exact HSub.nil _ | exact HSub.refl _ | refine HSub.drop ?_ | refine HSub.dropS ?_))) rfl ?_
        rw [show ((a : Nat) : Int) = ((toT s k : Nat) : Int) from by rw [show toT s k = (s.getD k 0).toNat from if_pos (by omega), hg_a]; rfl]
        refine W_assign rfl rfl ?_
        refine W_nil ?_
        refine W_joined (sub_cons rfl (sub_cons rfl (sub_cons rfl (sub_cons rfl (sub_cons rfl (sub_cons rfl (sub_nil _))))))) (.refl _)
      · skip
        refine W_skip ?_
        refine W_joined (sub_cons rfl (sub_cons rfl (sub_cons rfl (sub_cons rfl (sub_cons rfl (sub_cons (by rw [show toT s k = 18446744073709551615 from if_neg q2]; rfl) (sub_nil _))))))) (.refl _)
      skip
      refine W_sr ?_
      refine W_move rfl rfl ?_
      refine W_call (.cons rfl .nil) Tryd.call19 rfl (LCalls.hsub (Now_W (H := (b14, .cells 39 100 ((OB).map Value.bool)) :: H) hWw) (by repeat (first | with_reducible exact HSub.refl _ | refine HSub.cons (by repeat (first | exact Take.here _ | apply Take.next | apply Take.app)) ?_ | refine HSub.app (by repeat (first | with_reducible exact TakeS.here _ | apply TakeS.next | apply TakeS.app)) ?_ | exact HSub.nil _ | exact HSub.refl _ | refine HSub.drop ?_ | refine HSub.dropS ?_))) ?_
      rintro v H' ⟨rfl, rfl⟩
      refine W_assign rfl rfl ?_
      refine W_nil ?_
      refine W_sr ?_
      refine W_alloc (l := (List.replicate 100 0).map (fun q : Nat => Value.int .u64 (q : Int))) ty41 rfl (by decide) (fun b18 => ?_)
      refine W_nil ?_
      refine W_seq ?_
      refine W_sr ?_
      refine W_assign rfl rfl ?_
      refine W_nil ?_
      refine W_block ?_
      refine W_loopC (X := (Nat × List Nat)) [(2, _), (7, _), (8, _), (14, _), (15, _), (16, _), (17, _), (18, _)] (fun (x : (Nat × List Nat)) => [(19, .int .i64 (x.1 : Int))]) (fun _ => _) (fun (x : (Nat × List Nat)) => (b18, .cells 41 100 ((x.2).map (fun q : Nat => Value.int .u64 (q : Int)))) :: (b14, .cells 39 100 ((OB).map Value.bool)) :: (HW ++ H)) (fun (x : (Nat × List Nat)) => x.1 ≤ n ∧ x.2.length = 100 ∧ ∀ j : Nat, j < x.1 → x.2[j]? = some (spotOf Li (j : Int)).due) (fun (x : (Nat × List Nat)) => n - x.1) (0, List.replicate 100 0) ⟨Nat.zero_le _, List.length_replicate, fun j hj => by omega⟩ (sub_cons rfl (sub_cons rfl (sub_cons rfl (sub_cons rfl (sub_cons rfl (sub_cons rfl (sub_cons rfl (sub_cons rfl (sub_nil _))))))))) (sub_cons rfl (sub_nil _)) rfl (by repeat (first | with_reducible exact HSub.refl _ | refine HSub.cons (by repeat (first | exact Take.here _ | apply Take.next | apply Take.app)) ?_ | refine HSub.app (by repeat (first | with_reducible exact TakeS.here _ | apply TakeS.next | apply TakeS.app)) ?_ | exact HSub.nil _ | exact HSub.refl _ | refine HSub.drop ?_ | refine HSub.dropS ?_)) ?_
      rintro ⟨q, DU⟩ ⟨hq, hDl, hDU⟩
      dsimp only at hq hDl hDU ⊢
      simp only [List.cons_append, List.nil_append]
      refine W_seq ?_
      refine W_sr ?_
      refine W_move rfl rfl ?_
      refine W_move rfl rfl ?_
      refine W_bin rfl rfl b_lss rfl ?_
      refine W_nil ?_
      refine W_condPS (p := (q : Int) < (n : Int)) rfl (by simp) (fun q3 => ?_) (fun q3 => ?_)
      · skip
        refine W_skip ?_
        refine W_seq ?_
        refine W_block ?_
        refine W_sr ?_
        refine W_move rfl rfl ?_
        refine W_move rfl rfl ?_
        refine W_call (.cons rfl (.cons rfl .nil)) Tryd.call20 rfl (LCalls.hsub (Find_W (id := (q : Int)) (H := (b18, .cells 41 100 ((DU).map (fun q : Nat => Value.int .u64 (q : Int)))) :: (b14, .cells 39 100 ((OB).map Value.bool)) :: H) hWw) (by repeat (first | with_reducible exact HSub.refl _ | refine HSub.cons (by repeat (first | exact Take.here _ | apply Take.next | apply Take.app)) ?_ | refine HSub.app (by repeat (first | with_reducible exact TakeS.here _ | apply TakeS.next | apply TakeS.app)) ?_ | exact HSub.nil _ | exact HSub.refl _ | refine HSub.drop ?_ | refine HSub.dropS ?_))) ?_
        rintro v H' ⟨rfl, rfl⟩
        refine W_move rfl rfl ?_
        refine W_extract rfl rfl rfl ?_
        refine W_extract rfl rfl rfl ?_
        refine W_alloc (l := zSpot.v) ty27 rfl rfl (fun b20 => ?_)
        refine W_storeA (l' := (spotOf Li (q : Int)).v) rfl rfl ty27 rfl rfl (b := b20) (by repeat (first | exact List.mem_cons_self | apply List.mem_cons_of_mem | apply List.mem_append_right)) (by exact Nat.le_refl 4) rfl (by repeat (first | exact Upd.head _ | apply Upd.tail | apply Upd.app)) ?_
        refine W_assign rfl rfl ?_
        refine W_nil ?_
        refine W_seq ?_
        refine W_sr ?_
        refine W_move rfl rfl ?_
        refine W_move rfl rfl ?_
        refine W_indexAddrA (j := q) rfl rfl ty39 ty4 rfl (by omega) (at_ := q) (by omega) rfl ?_
        refine W_load rfl ty4 rfl (Cell.own (b := b14) (by repeat (first | exact List.mem_cons_self | apply List.mem_cons_of_mem | apply List.mem_append_right)) (by rw [List.getElem?_map, hOB q (by omega)]; rfl)) rfl ?_
        refine W_beq rfl rfl ty4 rfl ?_
        rw [show (heldB Li (q : Int) == !heldB Li (q : Int)) = false from by cases heldB Li (q : Int) <;> rfl]
        refine W_nil ?_
        refine W_condF rfl rfl ?_
        refine W_skip ?_
        refine W_region ?_
        refine W_move rfl rfl ?_
        refine W_fieldAddr rfl fld27_3 (by decide) rfl ?_
        refine W_load rfl ty22 rfl (Cell.own (by repeat (first | exact List.mem_cons_self | apply List.mem_cons_of_mem | apply List.mem_append_right)) rfl) rfl ?_
        refine W_indexAddrA (j := q) rfl rfl ty41 ty22 rfl (by omega) (at_ := q) (by omega) rfl ?_
        refine W_store (l' := ((DU.set q (spotOf Li (q : Int)).due).map (fun q : Nat => Value.int .u64 (q : Int)))) rfl rfl ty22 rfl rfl (b := b18) (by repeat (first | exact List.mem_cons_self | apply List.mem_cons_of_mem | apply List.mem_append_right)) (by rw [Nat.blt_eq, List.length_map]; omega) (by rw [List.map_set]) (by repeat (first | exact Upd.head _ | apply Upd.tail | apply Upd.app)) ?_
        refine W_nil ?_
        refine W_blk ?_
        refine W_region ?_
        refine W_move rfl rfl ?_
        refine W_bin rfl rfl (b_add (m := ((q + 1 : Nat) : Int)) ((i64w (by omega)).trans (by omega))) rfl ?_
        refine W_assign rfl rfl ?_
        refine W_nil ?_
        refine W_again (q + 1, DU.set q (spotOf Li (q : Int)).due) ⟨by show q + 1 ≤ n; omega, by show (DU.set _ _).length = _; rw [List.length_set]; exact hDl, fun j hj => set_upto hDU (by omega) j hj⟩ (by show n - (q + 1) < n - q; omega) (sub_cons rfl (sub_cons rfl (sub_cons rfl (sub_cons rfl (sub_cons rfl (sub_cons rfl (sub_cons rfl (sub_cons rfl (sub_cons rfl (sub_nil _)))))))))) rfl (by repeat (first | with_reducible exact HSub.refl _ | refine HSub.cons (by repeat (first | exact Take.here _ | apply Take.next | apply Take.app)) ?_ | refine HSub.app (by repeat (first | with_reducible exact TakeS.here _ | apply TakeS.next | apply TakeS.app)) ?_ | exact HSub.nil _ | exact HSub.refl _ | refine HSub.drop ?_ | refine HSub.dropS ?_))
      · skip
        refine W_exit rfl ?_
        refine W_sr ?_
        refine W_move rfl rfl ?_
        refine W_move rfl rfl ?_
        have hWd := hG.ahead
        obtain ⟨to, hto⟩ : ∃ to, to = toT s k := ⟨_, rfl⟩
        rw [← hto]
        have htm : to ≤ 18446744073709551615 := by rw [hto]; exact toT_le hwfs k
        refine W_call (.cons rfl (.cons rfl .nil)) Tryd.call18 rfl ((To_any (a := to) hT hWw hWd htm (H := (b18, .cells 41 100 ((DU).map (fun q : Nat => Value.int .u64 (q : Int)))) :: (b14, .cells 39 100 ((OB).map Value.bool)) :: H)).hsub (by repeat (first | with_reducible exact HSub.refl _ | refine HSub.cons (by repeat (first | exact Take.here _ | apply Take.next | apply Take.app)) ?_ | refine HSub.app (by repeat (first | with_reducible exact TakeS.here _ | apply TakeS.next | apply TakeS.app)) ?_ | exact HSub.nil _ | exact HSub.refl _ | refine HSub.drop ?_ | refine HSub.dropS ?_))) ?_
        rintro v H' ⟨O2, Li2, HW2, XO2, hW2, hG2, hO2, rfl⟩
        obtain ⟨ad2, cap2, rfl, _, _⟩ := hO2.shape
        have hgl := (hG.trans hG2).len
        rw [List.length_append] at hgl
        have hdue : ∀ t ∈ O2, t ∈ Li ∧ nw < t.s.due ∧ t.s.due ≤ to := fun t ht => by
          have h1 := List.mem_filter.1 (hG2.perm.mem_iff.1 ht)
          have h2 := hWd t h1.1
          have h3 := of_decide_eq_true h1.2
          exact ⟨h1.1, h2, by omega⟩
        have hnd2 : (O2.map (·.id)).Nodup := ((hG2.perm.map (·.id)).nodup_iff).2 (hidw.1.sublist (List.Sublist.map _ List.filter_sublist))
        have hDo : ∀ t ∈ O2, ∃ m : Nat, t.id = (m : Int) ∧ m < n ∧ DU[m]? = some t.s.due := fun t ht => by
          have h1 := (hdue t ht).1
          have h2 : t ∈ L := by rw [hG.left] at h1; exact (List.mem_filter.1 h1).1
          obtain ⟨m, e, hm⟩ := hrng t h2
          refine ⟨m, e, hm, ?_⟩
          rw [hDU m (by omega), ← e, spotOf_in hidw.1 h1]
        have hOr : Holds w0 (XO2 ++ (HW2 ++ H)) ad2 ((O2.map (·.id)).map (Value.int .i64)) := OwnS.holds hO2 (fun p hp => List.mem_append_left _ hp)
        refine W_assign rfl rfl ?_
        refine W_nil ?_
        refine W_seq ?_
        refine W_sr ?_
        refine W_assign rfl rfl ?_
        refine W_nil ?_
        refine W_block ?_
        refine W_loopC (X := (Nat × List Bool)) [(2, _), (7, _), (8, _), (14, _), (15, _), (16, _), (17, _), (18, _), (22, _)] (fun (x : (Nat × List Bool)) => [(23, .int .i64 (x.1 : Int))]) (fun _ => _) (fun (x : (Nat × List Bool)) => (b14, .cells 39 100 ((x.2).map Value.bool)) :: (b18, .cells 41 100 ((DU).map (fun q : Nat => Value.int .u64 (q : Int)))) :: (XO2 ++ (HW2 ++ H))) (fun (x : (Nat × List Bool)) => x.1 ≤ O2.length ∧ x.2.length = 100 ∧ ∀ j : Nat, j < n → x.2[j]? = some (!heldB Li (j : Int) || (O2.take x.1).any (fun t => decide (t.id = (j : Int))))) (fun (x : (Nat × List Bool)) => O2.length - x.1) (0, OB) ⟨Nat.zero_le _, hOl, fun j hj => by rw [hOB j hj]; simp⟩ (sub_cons rfl (sub_cons rfl (sub_cons rfl (sub_cons rfl (sub_cons rfl (sub_cons rfl (sub_cons rfl (sub_cons rfl (sub_cons rfl (sub_nil _)))))))))) (sub_cons rfl (sub_nil _)) rfl (by repeat (first | with_reducible exact HSub.refl _ | refine HSub.cons (by repeat (first | exact Take.here _ | apply Take.next | apply Take.app)) ?_ | refine HSub.app (by repeat (first | with_reducible exact TakeS.here _ | apply TakeS.next | apply TakeS.app)) ?_ | exact HSub.nil _ | exact HSub.refl _ | refine HSub.drop ?_ | refine HSub.dropS ?_)) ?_
        rintro ⟨q, OBq⟩ ⟨hq, hBl, hBq⟩
        dsimp only at hq hBl hBq ⊢
        simp only [List.cons_append, List.nil_append]
        refine W_seq ?_
        refine W_sr ?_
        refine W_move rfl rfl ?_
        refine W_move rfl rfl ?_
        refine W_len rfl ty35 rfl rfl ?_
        refine W_bin rfl rfl b_lss rfl ?_
        refine W_nil ?_
        refine W_condPS (p := (q : Int) < (O2.length : Int)) rfl (by simp) (fun q4 => ?_) (fun q4 => ?_)
        · skip
          refine W_skip ?_
          refine W_seq ?_
          refine W_block ?_
          refine W_seq ?_
          refine W_seq ?_
          obtain ⟨tq, htq⟩ : ∃ tq, O2[q]? = some tq := ⟨_, List.getElem?_eq_getElem (by omega)⟩
          obtain ⟨q0_, p0_, rfl, hc⟩ := hOr.at (i := q) (v := .int .i64 tq.id) (by rw [List.getElem?_map, List.getElem?_map, htq]; rfl)
          have hmq := List.mem_of_getElem? htq
          obtain ⟨m, hmid, hm, hDm⟩ := hDo tq hmq
          obtain ⟨hin, hd1, hd2⟩ := hdue tq hmq
          rw [hmid] at hc
          have hBm : OBq[m]? = some false := by
            rw [hBq m hm, ← hmid, heldB_iff.2 (List.mem_map_of_mem hin)]
            rw [show (O2.take q).any (fun t => decide (t.id = tq.id)) = false from ?_]
            · rfl
            · rw [List.any_eq_false]
              intro u hu e
              obtain ⟨j, hj, e2⟩ := List.getElem_of_mem hu
              rw [List.length_take] at hj
              have e3 : O2[j]? = some u := by rw [← e2, List.getElem_take]; exact List.getElem?_eq_getElem (by omega)
              have h1 : (O2.map (·.id))[j]'(by rw [List.length_map]; omega) = (O2.map (·.id))[q]'(by rw [List.length_map]; omega) := by
                have a1 := (List.getElem?_eq_some_iff.1 e3).2
                have a2 := (List.getElem?_eq_some_iff.1 htq).2
                rw [List.getElem_map, List.getElem_map, a1, a2]; exact of_decide_eq_true e
              exact (List.pairwise_iff_getElem.1 hnd2) j q _ _ (by omega) h1
          by_cases hq0 : 0 < q
          · skip
            obtain ⟨tp, htp⟩ : ∃ tp, O2[q - 1]? = some tp := ⟨_, List.getElem?_eq_getElem (by omega)⟩
            obtain ⟨q1_, p1_, ee, hcp⟩ := hOr.at (i := q - 1) (v := .int .i64 tp.id) (by rw [List.getElem?_map, List.getElem?_map, htp]; rfl)
            cases ee
            obtain ⟨mp, hmpid, hmp, hDp⟩ := hDo tp (List.mem_of_getElem? htp)
            rw [hmpid] at hcp
            have hle : tp.s.due ≤ tq.s.due := by
              have h1 := List.pairwise_iff_getElem.1 hG2.asc (q - 1) q (by omega) (by omega) (by omega)
              rw [(List.getElem?_eq_some_iff.1 htp).2, (List.getElem?_eq_some_iff.1 htq).2] at h1
              unfold ahead at h1; omega
            refine W_quiet (by kernel_rfl) (by decide +kernel) ?_
            refine WQ_x (X_move rfl) rfl ?_
            refine WQ_x (X_move rfl) rfl ?_
            refine WQ_x (X_indexAddr (j := q) rfl rfl ty35 ty3 rfl (by omega) rfl) rfl ?_
            refine WQ_x (X_load (v := .int .i64 ((m : Nat) : Int)) rfl ty3 rfl (by rw [Nat.mul_one]; exact hc.up (by repeat (first | with_reducible exact HSub.refl _ | refine HSub.cons (by repeat (first | exact Take.here _ | apply Take.next | apply Take.app)) ?_ | refine HSub.app (by repeat (first | with_reducible exact TakeS.here _ | apply TakeS.next | apply TakeS.app)) ?_ | exact HSub.nil _ | exact HSub.refl _ | refine HSub.drop ?_ | refine HSub.dropS ?_)))) rfl ?_
            refine WQ_x (X_bin rfl rfl b_lss) rfl ?_
            rw [decide_eq_false (by omega)]
            refine WQ_x (X_move rfl) rfl ?_
            refine WQ_gyes rfl rfl ?_
            refine WQ_x (X_move rfl) rfl ?_
            refine WQ_gyes rfl rfl ?_
            refine WQ_x (X_move rfl) rfl ?_
            refine WQ_gyes rfl rfl ?_
            refine WQ_x (X_indexAddr (j := q) rfl rfl ty35 ty3 rfl (by omega) rfl) rfl ?_
            refine WQ_gyes rfl rfl ?_
            refine WQ_x (X_load (v := .int .i64 ((m : Nat) : Int)) rfl ty3 rfl (by rw [Nat.mul_one]; exact hc.up (by repeat (first | with_reducible exact HSub.refl _ | refine HSub.cons (by repeat (first | exact Take.here _ | apply Take.next | apply Take.app)) ?_ | refine HSub.app (by repeat (first | with_reducible exact TakeS.here _ | apply TakeS.next | apply TakeS.app)) ?_ | exact HSub.nil _ | exact HSub.refl _ | refine HSub.drop ?_ | refine HSub.dropS ?_)))) rfl ?_
            refine WQ_gyes rfl rfl ?_
            refine WQ_x (X_move rfl) rfl ?_
            refine WQ_gyes rfl rfl ?_
            refine WQ_x (X_bin rfl rfl b_geq) rfl ?_
            rw [decide_eq_false (by omega)]
            first | refine WQ_x (X_pickt rfl rfl) rfl ?_ | refine WQ_x (X_pickf rfl rfl) rfl ?_
            refine WQ_x (X_move rfl) rfl ?_
            refine WQ_gyes rfl rfl ?_
            refine WQ_x (X_move rfl) rfl ?_
            refine WQ_gyes rfl rfl ?_
            refine WQ_x (X_move rfl) rfl ?_
            refine WQ_gyes rfl rfl ?_
            refine WQ_x (X_indexAddr (j := q) rfl rfl ty35 ty3 rfl (by omega) rfl) rfl ?_
            refine WQ_gyes rfl rfl ?_
            refine WQ_x (X_load (v := .int .i64 ((m : Nat) : Int)) rfl ty3 rfl (by rw [Nat.mul_one]; exact hc.up (by repeat (first | with_reducible exact HSub.refl _ | refine HSub.cons (by repeat (first | exact Take.here _ | apply Take.next | apply Take.app)) ?_ | refine HSub.app (by repeat (first | with_reducible exact TakeS.here _ | apply TakeS.next | apply TakeS.app)) ?_ | exact HSub.nil _ | exact HSub.refl _ | refine HSub.drop ?_ | refine HSub.dropS ?_)))) rfl ?_
            refine WQ_gyes rfl rfl ?_
            refine WQ_x (X_indexAddrA (j := m) rfl rfl ty39 ty4 rfl (by omega) (at_ := m) (by omega)) rfl ?_
            refine WQ_gyes rfl rfl ?_
            refine WQ_x (X_load rfl ty4 rfl (Cell.own (b := b14) (by repeat (first | exact List.mem_cons_self | apply List.mem_cons_of_mem | apply List.mem_append_right)) (by rw [List.getElem?_map, hBm]; rfl))) rfl ?_
            first | refine WQ_x (X_pickt rfl rfl) rfl ?_ | refine WQ_x (X_pickf rfl rfl) rfl ?_
            refine WQ_x (X_move rfl) rfl ?_
            refine WQ_gyes rfl rfl ?_
            refine WQ_x (X_move rfl) rfl ?_
            refine WQ_gyes rfl rfl ?_
            refine WQ_x (X_move rfl) rfl ?_
            refine WQ_gyes rfl rfl ?_
            refine WQ_x (X_indexAddr (j := q) rfl rfl ty35 ty3 rfl (by omega) rfl) rfl ?_
            refine WQ_gyes rfl rfl ?_
            refine WQ_x (X_load (v := .int .i64 ((m : Nat) : Int)) rfl ty3 rfl (by rw [Nat.mul_one]; exact hc.up (by repeat (first | with_reducible exact HSub.refl _ | refine HSub.cons (by repeat (first | exact Take.here _ | apply Take.next | apply Take.app)) ?_ | refine HSub.app (by repeat (first | with_reducible exact TakeS.here _ | apply TakeS.next | apply TakeS.app)) ?_ | exact HSub.nil _ | exact HSub.refl _ | refine HSub.drop ?_ | refine HSub.dropS ?_)))) rfl ?_
            refine WQ_gyes rfl rfl ?_
            refine WQ_x (X_indexAddrA (j := m) rfl rfl ty41 ty22 rfl (by omega) (at_ := m) (by omega)) rfl ?_
            refine WQ_gyes rfl rfl ?_
            refine WQ_x (X_load (v := .int .u64 ((tq.s.due : Nat) : Int)) rfl ty22 rfl (Cell.own (b := b18) (by repeat (first | exact List.mem_cons_self | apply List.mem_cons_of_mem | apply List.mem_append_right)) (by rw [List.getElem?_map, hDm]; rfl))) rfl ?_
            refine WQ_gyes rfl rfl ?_
            refine WQ_x (X_move rfl) rfl ?_
            refine WQ_gyes rfl rfl ?_
            refine WQ_x (X_bin rfl rfl b_gtr) rfl ?_
            rw [decide_eq_false (by omega)]
            first | refine WQ_x (X_pickt rfl rfl) rfl ?_ | refine WQ_x (X_pickf rfl rfl) rfl ?_
            refine WQ_x (X_move rfl) rfl ?_
            refine WQ_gyes rfl rfl ?_
            refine WQ_x (X_move rfl) rfl ?_
            refine WQ_gyes rfl rfl ?_
            refine WQ_x (X_move rfl) rfl ?_
            refine WQ_gyes rfl rfl ?_
            refine WQ_x (X_indexAddr (j := q) rfl rfl ty35 ty3 rfl (by omega) rfl) rfl ?_
            refine WQ_gyes rfl rfl ?_
            refine WQ_x (X_load (v := .int .i64 ((m : Nat) : Int)) rfl ty3 rfl (by rw [Nat.mul_one]; exact hc.up (by repeat (first | with_reducible exact HSub.refl _ | refine HSub.cons (by repeat (first | exact Take.here _ | apply Take.next | apply Take.app)) ?_ | refine HSub.app (by repeat (first | with_reducible exact TakeS.here _ | apply TakeS.next | apply TakeS.app)) ?_ | exact HSub.nil _ | exact HSub.refl _ | refine HSub.drop ?_ | refine HSub.dropS ?_)))) rfl ?_
            refine WQ_gyes rfl rfl ?_
            refine WQ_x (X_indexAddrA (j := m) rfl rfl ty41 ty22 rfl (by omega) (at_ := m) (by omega)) rfl ?_
            refine WQ_gyes rfl rfl ?_
            refine WQ_x (X_load (v := .int .u64 ((tq.s.due : Nat) : Int)) rfl ty22 rfl (Cell.own (b := b18) (by repeat (first | exact List.mem_cons_self | apply List.mem_cons_of_mem | apply List.mem_append_right)) (by rw [List.getElem?_map, hDm]; rfl))) rfl ?_
            refine WQ_gyes rfl rfl ?_
            refine WQ_x (X_move rfl) rfl ?_
            refine WQ_gyes rfl rfl ?_
            refine WQ_x (X_bin rfl rfl b_leq) rfl ?_
            rw [decide_eq_false (by omega)]
            first | refine WQ_x (X_pickt rfl rfl) rfl ?_ | refine WQ_x (X_pickf rfl rfl) rfl ?_
            refine WQ_x (X_move rfl) rfl ?_
            refine WQ_gyes rfl rfl ?_
            refine WQ_x (X_move rfl) rfl ?_
            refine WQ_gyes rfl rfl ?_
            refine WQ_x (X_bin rfl rfl b_gtr) rfl ?_
            first | rw [decide_eq_true (by omega)] | rw [decide_eq_false (by omega)]
            refine WQ_gyes rfl rfl ?_
            refine WQ_x (X_move rfl) rfl ?_
            refine WQ_gyes rfl rfl ?_
            refine WQ_x (X_move rfl) rfl ?_
            refine WQ_gyes rfl rfl ?_
            refine WQ_x (X_move rfl) rfl ?_
            refine WQ_gyes rfl rfl ?_
            refine WQ_x (X_indexAddr (j := q) rfl rfl ty35 ty3 rfl (by omega) rfl) rfl ?_
            refine WQ_gyes rfl rfl ?_
            refine WQ_x (X_load (v := .int .i64 ((m : Nat) : Int)) rfl ty3 rfl (by rw [Nat.mul_one]; exact hc.up (by repeat (first | with_reducible exact HSub.refl _ | refine HSub.cons (by repeat (first | exact Take.here _ | apply Take.next | apply Take.app)) ?_ | refine HSub.app (by repeat (first | with_reducible exact TakeS.here _ | apply TakeS.next | apply TakeS.app)) ?_ | exact HSub.nil _ | exact HSub.refl _ | refine HSub.drop ?_ | refine HSub.dropS ?_)))) rfl ?_
            refine WQ_gyes rfl rfl ?_
            refine WQ_x (X_indexAddrA (j := m) rfl rfl ty41 ty22 rfl (by omega) (at_ := m) (by omega)) rfl ?_
            refine WQ_gyes rfl rfl ?_
            refine WQ_x (X_load (v := .int .u64 ((tq.s.due : Nat) : Int)) rfl ty22 rfl (Cell.own (b := b18) (by repeat (first | exact List.mem_cons_self | apply List.mem_cons_of_mem | apply List.mem_append_right)) (by rw [List.getElem?_map, hDm]; rfl))) rfl ?_
            refine WQ_gyes rfl rfl ?_
            refine WQ_x (X_move rfl) rfl ?_
            refine WQ_gyes rfl rfl ?_
            refine WQ_x (X_move rfl) rfl ?_
            refine WQ_gyes rfl rfl ?_
            refine WQ_x (X_bin rfl rfl (b_sub (m := ((q - 1 : Nat) : Int)) (by rw [i64w (by omega)]; omega))) rfl ?_
            refine WQ_gyes rfl rfl ?_
            refine WQ_x (X_indexAddr (j := (q - 1)) rfl rfl ty35 ty3 rfl (by omega) rfl) rfl ?_
            refine WQ_gyes rfl rfl ?_
            refine WQ_x (X_load (v := .int .i64 ((mp : Nat) : Int)) rfl ty3 rfl (by rw [Nat.mul_one]; exact hcp.up (by repeat (first | with_reducible exact HSub.refl _ | refine HSub.cons (by repeat (first | exact Take.here _ | apply Take.next | apply Take.app)) ?_ | refine HSub.app (by repeat (first | with_reducible exact TakeS.here _ | apply TakeS.next | apply TakeS.app)) ?_ | exact HSub.nil _ | exact HSub.refl _ | refine HSub.drop ?_ | refine HSub.dropS ?_)))) rfl ?_
            refine WQ_gyes rfl rfl ?_
            refine WQ_x (X_indexAddrA (j := mp) rfl rfl ty41 ty22 rfl (by omega) (at_ := mp) (by omega)) rfl ?_
            refine WQ_gyes rfl rfl ?_
            refine WQ_x (X_load (v := .int .u64 ((tp.s.due : Nat) : Int)) rfl ty22 rfl (Cell.own (b := b18) (by repeat (first | exact List.mem_cons_self | apply List.mem_cons_of_mem | apply List.mem_append_right)) (by rw [List.getElem?_map, hDp]; rfl))) rfl ?_
            refine WQ_gyes rfl rfl ?_
            refine WQ_x (X_bin rfl rfl b_lss) rfl ?_
            rw [decide_eq_false (by omega)]
            refine WQ_gyes rfl rfl ?_
            first | refine WQ_x (X_pickt rfl rfl) rfl ?_ | refine WQ_x (X_pickf rfl rfl) rfl ?_
            first | refine WQ_x (X_pickt rfl rfl) rfl ?_ | refine WQ_x (X_pickf rfl rfl) rfl ?_
            refine WQ_nil ?_
            refine W_condF rfl rfl ?_
            refine W_skip ?_
            refine W_region ?_
            refine W_move rfl rfl ?_
            refine W_move rfl rfl ?_
            refine W_indexAddr (j := q) rfl rfl ty35 ty3 rfl (by omega) rfl rfl ?_
            refine W_load (v := .int .i64 ((m : Nat) : Int)) rfl ty3 rfl (by rw [Nat.mul_one]; exact hc.up (by repeat (first | with_reducible exact HSub.refl _ | refine HSub.cons (by repeat (first | exact Take.here _ | apply Take.next | apply Take.app)) ?_ | refine HSub.app (by repeat (first | with_reducible exact TakeS.here _ | apply TakeS.next | apply TakeS.app)) ?_ | exact HSub.nil _ | exact HSub.refl _ | refine HSub.drop ?_ | refine HSub.dropS ?_))) rfl ?_
            refine W_indexAddrA (j := m) rfl rfl ty39 ty4 rfl (by omega) (at_ := m) (by omega) rfl ?_
            refine W_store (l' := ((OBq.set m true).map Value.bool)) rfl rfl ty4 rfl rfl (b := b14) (by repeat (first | exact List.mem_cons_self | apply List.mem_cons_of_mem | apply List.mem_append_right)) (by rw [Nat.blt_eq, List.length_map]; omega) (by rw [List.map_set]) (by repeat (first | exact Upd.head _ | apply Upd.tail | apply Upd.app)) ?_
            refine W_nil ?_
            refine W_blk ?_
            refine W_region ?_
            refine W_move rfl rfl ?_
            refine W_bin rfl rfl (b_add (m := ((q + 1 : Nat) : Int)) ((i64w (by omega)).trans (by omega))) rfl ?_
            refine W_assign rfl rfl ?_
            refine W_nil ?_
            refine W_again (q + 1, OBq.set m true) ⟨by show q + 1 ≤ O2.length; omega, by show (OBq.set _ _).length = _; rw [List.length_set]; exact hBl, fun j hj => by show (OBq.set m true)[j]? = _; rw [any_take htq, hmid]; exact set_true hBq hm (by omega) j hj⟩ (by show O2.length - (q + 1) < O2.length - q; omega) (sub_cons rfl (sub_cons rfl (sub_cons rfl (sub_cons rfl (sub_cons rfl (sub_cons rfl (sub_cons rfl (sub_cons rfl (sub_cons rfl (sub_cons rfl (sub_nil _))))))))))) rfl (by repeat (first | with_reducible exact HSub.refl _ | refine HSub.cons (by repeat (first | exact Take.here _ | apply Take.next | apply Take.app)) ?_ | refine HSub.app (by repeat (first | with_reducible exact TakeS.here _ | apply TakeS.next | apply TakeS.app)) ?_ | exact HSub.nil _ | exact HSub.refl _ | refine HSub.drop ?_ | refine HSub.dropS ?_))
          · skip
            skip
            refine W_quiet (by kernel_rfl) (by decide +kernel) ?_
            refine WQ_x (X_move rfl) rfl ?_
            refine WQ_x (X_move rfl) rfl ?_
            refine WQ_x (X_indexAddr (j := q) rfl rfl ty35 ty3 rfl (by omega) rfl) rfl ?_
            refine WQ_x (X_load (v := .int .i64 ((m : Nat) : Int)) rfl ty3 rfl (by rw [Nat.mul_one]; exact hc.up (by repeat (first | with_reducible exact HSub.refl _ | refine HSub.cons (by repeat (first | exact Take.here _ | apply Take.next | apply Take.app)) ?_ | refine HSub.app (by repeat (first | with_reducible exact TakeS.here _ | apply TakeS.next | apply TakeS.app)) ?_ | exact HSub.nil _ | exact HSub.refl _ | refine HSub.drop ?_ | refine HSub.dropS ?_)))) rfl ?_
            refine WQ_x (X_bin rfl rfl b_lss) rfl ?_
            rw [decide_eq_false (by omega)]
            refine WQ_x (X_move rfl) rfl ?_
            refine WQ_gyes rfl rfl ?_
            refine WQ_x (X_move rfl) rfl ?_
            refine WQ_gyes rfl rfl ?_
            refine WQ_x (X_move rfl) rfl ?_
            refine WQ_gyes rfl rfl ?_
            refine WQ_x (X_indexAddr (j := q) rfl rfl ty35 ty3 rfl (by omega) rfl) rfl ?_
            refine WQ_gyes rfl rfl ?_
            refine WQ_x (X_load (v := .int .i64 ((m : Nat) : Int)) rfl ty3 rfl (by rw [Nat.mul_one]; exact hc.up (by repeat (first | with_reducible exact HSub.refl _ | refine HSub.cons (by repeat (first | exact Take.here _ | apply Take.next | apply Take.app)) ?_ | refine HSub.app (by repeat (first | with_reducible exact TakeS.here _ | apply TakeS.next | apply TakeS.app)) ?_ | exact HSub.nil _ | exact HSub.refl _ | refine HSub.drop ?_ | refine HSub.dropS ?_)))) rfl ?_
            refine WQ_gyes rfl rfl ?_
            refine WQ_x (X_move rfl) rfl ?_
            refine WQ_gyes rfl rfl ?_
            refine WQ_x (X_bin rfl rfl b_geq) rfl ?_
            rw [decide_eq_false (by omega)]
            first | refine WQ_x (X_pickt rfl rfl) rfl ?_ | refine WQ_x (X_pickf rfl rfl) rfl ?_
            refine WQ_x (X_move rfl) rfl ?_
            refine WQ_gyes rfl rfl ?_
            refine WQ_x (X_move rfl) rfl ?_
            refine WQ_gyes rfl rfl ?_
            refine WQ_x (X_move rfl) rfl ?_
            refine WQ_gyes rfl rfl ?_
            refine WQ_x (X_indexAddr (j := q) rfl rfl ty35 ty3 rfl (by omega) rfl) rfl ?_
            refine WQ_gyes rfl rfl ?_
            refine WQ_x (X_load (v := .int .i64 ((m : Nat) : Int)) rfl ty3 rfl (by rw [Nat.mul_one]; exact hc.up (by repeat (first | with_reducible exact HSub.refl _ | refine HSub.cons (by repeat (first | exact Take.here _ | apply Take.next | apply Take.app)) ?_ | refine HSub.app (by repeat (first | with_reducible exact TakeS.here _ | apply TakeS.next | apply TakeS.app)) ?_ | exact HSub.nil _ | exact HSub.refl _ | refine HSub.drop ?_ | refine HSub.dropS ?_)))) rfl ?_
            refine WQ_gyes rfl rfl ?_
            refine WQ_x (X_indexAddrA (j := m) rfl rfl ty39 ty4 rfl (by omega) (at_ := m) (by omega)) rfl ?_
            refine WQ_gyes rfl rfl ?_
            refine WQ_x (X_load rfl ty4 rfl (Cell.own (b := b14) (by repeat (first | exact List.mem_cons_self | apply List.mem_cons_of_mem | apply List.mem_append_right)) (by rw [List.getElem?_map, hBm]; rfl))) rfl ?_
            first | refine WQ_x (X_pickt rfl rfl) rfl ?_ | refine WQ_x (X_pickf rfl rfl) rfl ?_
            refine WQ_x (X_move rfl) rfl ?_
            refine WQ_gyes rfl rfl ?_
            refine WQ_x (X_move rfl) rfl ?_
            refine WQ_gyes rfl rfl ?_
            refine WQ_x (X_move rfl) rfl ?_
            refine WQ_gyes rfl rfl ?_
            refine WQ_x (X_indexAddr (j := q) rfl rfl ty35 ty3 rfl (by omega) rfl) rfl ?_
            refine WQ_gyes rfl rfl ?_
            refine WQ_x (X_load (v := .int .i64 ((m : Nat) : Int)) rfl ty3 rfl (by rw [Nat.mul_one]; exact hc.up (by repeat (first | with_reducible exact HSub.refl _ | refine HSub.cons (by repeat (first | exact Take.here _ | apply Take.next | apply Take.app)) ?_ | refine HSub.app (by repeat (first | with_reducible exact TakeS.here _ | apply TakeS.next | apply TakeS.app)) ?_ | exact HSub.nil _ | exact HSub.refl _ | refine HSub.drop ?_ | refine HSub.dropS ?_)))) rfl ?_
            refine WQ_gyes rfl rfl ?_
            refine WQ_x (X_indexAddrA (j := m) rfl rfl ty41 ty22 rfl (by omega) (at_ := m) (by omega)) rfl ?_
            refine WQ_gyes rfl rfl ?_
            refine WQ_x (X_load (v := .int .u64 ((tq.s.due : Nat) : Int)) rfl ty22 rfl (Cell.own (b := b18) (by repeat (first | exact List.mem_cons_self | apply List.mem_cons_of_mem | apply List.mem_append_right)) (by rw [List.getElem?_map, hDm]; rfl))) rfl ?_
            refine WQ_gyes rfl rfl ?_
            refine WQ_x (X_move rfl) rfl ?_
            refine WQ_gyes rfl rfl ?_
            refine WQ_x (X_bin rfl rfl b_gtr) rfl ?_
            rw [decide_eq_false (by omega)]
            first | refine WQ_x (X_pickt rfl rfl) rfl ?_ | refine WQ_x (X_pickf rfl rfl) rfl ?_
            refine WQ_x (X_move rfl) rfl ?_
            refine WQ_gyes rfl rfl ?_
            refine WQ_x (X_move rfl) rfl ?_
            refine WQ_gyes rfl rfl ?_
            refine WQ_x (X_move rfl) rfl ?_
            refine WQ_gyes rfl rfl ?_
            refine WQ_x (X_indexAddr (j := q) rfl rfl ty35 ty3 rfl (by omega) rfl) rfl ?_
            refine WQ_gyes rfl rfl ?_
            refine WQ_x (X_load (v := .int .i64 ((m : Nat) : Int)) rfl ty3 rfl (by rw [Nat.mul_one]; exact hc.up (by repeat (first | with_reducible exact HSub.refl _ | refine HSub.cons (by repeat (first | exact Take.here _ | apply Take.next | apply Take.app)) ?_ | refine HSub.app (by repeat (first | with_reducible exact TakeS.here _ | apply TakeS.next | apply TakeS.app)) ?_ | exact HSub.nil _ | exact HSub.refl _ | refine HSub.drop ?_ | refine HSub.dropS ?_)))) rfl ?_
            refine WQ_gyes rfl rfl ?_
            refine WQ_x (X_indexAddrA (j := m) rfl rfl ty41 ty22 rfl (by omega) (at_ := m) (by omega)) rfl ?_
            refine WQ_gyes rfl rfl ?_
            refine WQ_x (X_load (v := .int .u64 ((tq.s.due : Nat) : Int)) rfl ty22 rfl (Cell.own (b := b18) (by repeat (first | exact List.mem_cons_self | apply List.mem_cons_of_mem | apply List.mem_append_right)) (by rw [List.getElem?_map, hDm]; rfl))) rfl ?_
            refine WQ_gyes rfl rfl ?_
            refine WQ_x (X_move rfl) rfl ?_
            refine WQ_gyes rfl rfl ?_
            refine WQ_x (X_bin rfl rfl b_leq) rfl ?_
            rw [decide_eq_false (by omega)]
            first | refine WQ_x (X_pickt rfl rfl) rfl ?_ | refine WQ_x (X_pickf rfl rfl) rfl ?_
            refine WQ_x (X_move rfl) rfl ?_
            refine WQ_gyes rfl rfl ?_
            refine WQ_x (X_move rfl) rfl ?_
            refine WQ_gyes rfl rfl ?_
            refine WQ_x (X_bin rfl rfl b_gtr) rfl ?_
            first | rw [decide_eq_true (by omega)] | rw [decide_eq_false (by omega)]
            refine WQ_gyes rfl rfl ?_
            refine WQ_x (X_move rfl) rfl ?_
            refine WQ_gno rfl rfl rfl rfl ?_
            refine WQ_gno rfl rfl rfl rfl ?_
            refine WQ_gno rfl rfl rfl rfl ?_
            refine WQ_gno rfl rfl rfl rfl ?_
            refine WQ_gno rfl rfl rfl rfl ?_
            refine WQ_gno rfl rfl rfl rfl ?_
            refine WQ_gno rfl rfl rfl rfl ?_
            refine WQ_gno rfl rfl rfl rfl ?_
            refine WQ_gno rfl rfl rfl rfl ?_
            refine WQ_gno rfl rfl rfl rfl ?_
            refine WQ_gno rfl rfl rfl rfl ?_
            refine WQ_gno rfl rfl rfl rfl ?_
            refine WQ_gno rfl rfl rfl rfl ?_
            refine WQ_gno rfl rfl rfl rfl ?_
            refine WQ_gyes rfl rfl ?_
            first | refine WQ_x (X_pickt rfl rfl) rfl ?_ | refine WQ_x (X_pickf rfl rfl) rfl ?_
            first | refine WQ_x (X_pickt rfl rfl) rfl ?_ | refine WQ_x (X_pickf rfl rfl) rfl ?_
            refine WQ_nil ?_
            refine W_condF rfl rfl ?_
            refine W_skip ?_
            refine W_region ?_
            refine W_move rfl rfl ?_
            refine W_move rfl rfl ?_
            refine W_indexAddr (j := q) rfl rfl ty35 ty3 rfl (by omega) rfl rfl ?_
            refine W_load (v := .int .i64 ((m : Nat) : Int)) rfl ty3 rfl (by rw [Nat.mul_one]; exact hc.up (by repeat (first | with_reducible exact HSub.refl _ | refine HSub.cons (by repeat (first | exact Take.here _ | apply Take.next | apply Take.app)) ?_ | refine HSub.app (by repeat (first | with_reducible exact TakeS.here _ | apply TakeS.next | apply TakeS.app)) ?_ | exact HSub.nil _ | exact HSub.refl _ | refine HSub.drop ?_ | refine HSub.dropS ?_))) rfl ?_
            refine W_indexAddrA (j := m) rfl rfl ty39 ty4 rfl (by omega) (at_ := m) (by omega) rfl ?_
            refine W_store (l' := ((OBq.set m true).map Value.bool)) rfl rfl ty4 rfl rfl (b := b14) (by repeat (first | exact List.mem_cons_self | apply List.mem_cons_of_mem | apply List.mem_append_right)) (by rw [Nat.blt_eq, List.length_map]; omega) (by rw [List.map_set]) (by repeat (first | exact Upd.head _ | apply Upd.tail | apply Upd.app)) ?_
            refine W_nil ?_
            refine W_blk ?_
            refine W_region ?_
            refine W_move rfl rfl ?_
            refine W_bin rfl rfl (b_add (m := ((q + 1 : Nat) : Int)) ((i64w (by omega)).trans (by omega))) rfl ?_
            refine W_assign rfl rfl ?_
            refine W_nil ?_
            refine W_again (q + 1, OBq.set m true) ⟨by show q + 1 ≤ O2.length; omega, by show (OBq.set _ _).length = _; rw [List.length_set]; exact hBl, fun j hj => by show (OBq.set m true)[j]? = _; rw [any_take htq, hmid]; exact set_true hBq hm (by omega) j hj⟩ (by show O2.length - (q + 1) < O2.length - q; omega) (sub_cons rfl (sub_cons rfl (sub_cons rfl (sub_cons rfl (sub_cons rfl (sub_cons rfl (sub_cons rfl (sub_cons rfl (sub_cons rfl (sub_cons rfl (sub_nil _))))))))))) rfl (by repeat (first | with_reducible exact HSub.refl _ | refine HSub.cons (by repeat (first | exact Take.here _ | apply Take.next | apply Take.app)) ?_ | refine HSub.app (by repeat (first | with_reducible exact TakeS.here _ | apply TakeS.next | apply TakeS.app)) ?_ | exact HSub.nil _ | exact HSub.refl _ | refine HSub.drop ?_ | refine HSub.dropS ?_))
        · skip
          refine W_exit rfl ?_
          refine W_sr ?_
          refine W_assign rfl rfl ?_
          refine W_nil ?_
          refine W_block ?_
          obtain ⟨OB2, hOB2⟩ : ∃ OB2, OB2 = OBq := ⟨_, rfl⟩
          rw [← hOB2] at hBq hBl ⊢
          have hOl2 := hBl
          have hOBn : ∀ j : Nat, j < n → OB2[j]? = some (!heldB Li2 (j : Int)) := fun j hj => by
            rw [hBq j hj, List.take_of_length_le (by omega)]
            rw [heldB_filter hidw.1 hG2.left hG2.perm]
          clear hBq hOB2
          refine W_loopC (X := Nat) [(2, _), (7, _), (8, _), (14, _), (15, _), (18, _)] (fun (q : Nat) => [(24, .int .i64 (q : Int))]) (fun _ => _) (fun (q : Nat) => (b14, .cells 39 100 ((OB2).map Value.bool)) :: (b18, .cells 41 100 ((DU).map (fun q : Nat => Value.int .u64 (q : Int)))) :: (XO2 ++ (HW2 ++ H))) (fun (q : Nat) => q ≤ n) (fun (q : Nat) => n - q) 0 (Nat.zero_le _) (sub_cons rfl (sub_cons rfl (sub_cons rfl (sub_cons rfl (sub_cons rfl (sub_cons rfl (sub_nil _))))))) (sub_cons rfl (sub_nil _)) rfl (.refl _) ?_
          intro q hq
          simp only [List.cons_append, List.nil_append]
          refine W_seq ?_
          refine W_sr ?_
          refine W_move rfl rfl ?_
          refine W_move rfl rfl ?_
          refine W_bin rfl rfl b_lss rfl ?_
          refine W_nil ?_
          refine W_condPS (p := (q : Int) < (n : Int)) rfl (by simp) (fun q5 => ?_) (fun q5 => ?_)
          · skip
            refine W_skip ?_
            refine W_seq ?_
            refine W_block ?_
            refine W_seq ?_
            have hOq := hOBn q (by omega)
            rcases hb : heldB Li2 (q : Int) with _ | _
            · skip
              rw [hb] at hOq
              refine W_quiet (by kernel_rfl) (by decide +kernel) ?_
              refine WQ_x (X_move rfl) rfl ?_
              refine WQ_x (X_indexAddrA (j := q) rfl rfl ty39 ty4 rfl (by omega) (at_ := q) (by omega)) rfl ?_
              refine WQ_x (X_load rfl ty4 rfl (Cell.own (b := b14) (by repeat (first | exact List.mem_cons_self | apply List.mem_cons_of_mem | apply List.mem_append_right)) (by rw [List.getElem?_map, hOq]; rfl))) rfl ?_
              refine WQ_x (X_not rfl) rfl ?_
              refine WQ_x (X_move rfl) rfl ?_
              refine WQ_gno rfl rfl rfl rfl ?_
              refine WQ_gno rfl rfl rfl rfl ?_
              refine WQ_gno rfl rfl rfl rfl ?_
              refine WQ_gno rfl rfl rfl rfl ?_
              refine WQ_gno rfl rfl rfl rfl ?_
              refine WQ_gno rfl rfl rfl rfl ?_
              first | refine WQ_x (X_pickt rfl rfl) rfl ?_ | refine WQ_x (X_pickf rfl rfl) rfl ?_
              refine WQ_nil ?_
              refine W_condF rfl rfl ?_
              refine W_skip ?_
              refine W_blk ?_
              refine W_region ?_
              refine W_move rfl rfl ?_
              refine W_bin rfl rfl (b_add (m := ((q + 1 : Nat) : Int)) ((i64w (by omega)).trans (by omega))) rfl ?_
              refine W_assign rfl rfl ?_
              refine W_nil ?_
              refine W_again (q + 1) (by omega) (by omega) (sub_cons rfl (sub_cons rfl (sub_cons rfl (sub_cons rfl (sub_cons rfl (sub_cons rfl (sub_cons rfl (sub_nil _)))))))) rfl (.refl _)
            · skip
              rw [hb] at hOq
              have hdq : max nw to < (spotOf Li (q : Int)).due := by
                obtain ⟨u, hu, e⟩ := List.mem_map.1 (heldB_iff.1 hb)
                rw [← e, spotOf_in hidw.1 (by rw [hG2.left] at hu; exact (List.mem_filter.1 hu).1)]
                exact hG2.ahead u hu
              refine W_quiet (by kernel_rfl) (by decide +kernel) ?_
              refine WQ_x (X_move rfl) rfl ?_
              refine WQ_x (X_indexAddrA (j := q) rfl rfl ty39 ty4 rfl (by omega) (at_ := q) (by omega)) rfl ?_
              refine WQ_x (X_load rfl ty4 rfl (Cell.own (b := b14) (by repeat (first | exact List.mem_cons_self | apply List.mem_cons_of_mem | apply List.mem_append_right)) (by rw [List.getElem?_map, hOq]; rfl))) rfl ?_
              refine WQ_x (X_not rfl) rfl ?_
              refine WQ_x (X_move rfl) rfl ?_
              refine WQ_gyes rfl rfl ?_
              refine WQ_x (X_move rfl) rfl ?_
              refine WQ_gyes rfl rfl ?_
              refine WQ_x (X_indexAddrA (j := q) rfl rfl ty41 ty22 rfl (by omega) (at_ := q) (by omega)) rfl ?_
              refine WQ_gyes rfl rfl ?_
              refine WQ_x (X_load (v := .int .u64 (((spotOf Li (q : Int)).due : Nat) : Int)) rfl ty22 rfl (Cell.own (b := b18) (by repeat (first | exact List.mem_cons_self | apply List.mem_cons_of_mem | apply List.mem_append_right)) (by rw [List.getElem?_map, hDU q (by omega)]; rfl))) rfl ?_
              refine WQ_gyes rfl rfl ?_
              refine WQ_x (X_move rfl) rfl ?_
              refine WQ_gyes rfl rfl ?_
              refine WQ_callq (.cons rfl .nil) Tryd.call19 rfl (by exact now_q2 hW2 (by intro p hp; repeat (first | exact List.mem_append_left _ hp | exact List.mem_cons_self | apply List.mem_cons_of_mem | apply List.mem_append_right))) ?_
              refine WQ_gyes rfl rfl ?_
              refine WQ_x (X_bin rfl rfl b_leq) rfl ?_
              rw [decide_eq_false (by omega)]
              first | refine WQ_x (X_pickt rfl rfl) rfl ?_ | refine WQ_x (X_pickf rfl rfl) rfl ?_
              refine WQ_nil ?_
              refine W_condF rfl rfl ?_
              refine W_skip ?_
              refine W_blk ?_
              refine W_region ?_
              refine W_move rfl rfl ?_
              refine W_bin rfl rfl (b_add (m := ((q + 1 : Nat) : Int)) ((i64w (by omega)).trans (by omega))) rfl ?_
              refine W_assign rfl rfl ?_
              refine W_nil ?_
              refine W_again (q + 1) (by omega) (by omega) (sub_cons rfl (sub_cons rfl (sub_cons rfl (sub_cons rfl (sub_cons rfl (sub_cons rfl (sub_cons rfl (sub_nil _)))))))) rfl (.refl _)
          · skip
            refine W_exit rfl ?_
            refine W_blk ?_
            refine W_region ?_
            refine W_move rfl rfl ?_
            have hton : s.length < k + 1 ∨ 60 < k + 1 → max nw to = 18446744073709551615 := fun h => by
              have : to = 18446744073709551615 := by rw [hto]; exact if_neg (by omega)
              omega
            refine W_bin rfl rfl (b_add (m := ((k + 1 : Nat) : Int)) ((i64w (by omega)).trans (by omega))) rfl ?_
            refine W_assign rfl rfl ?_
            refine W_nil ?_
            refine W_again ⟨k + 1, max nw to, Li2, O ++ O2, OB2, HW2⟩ ⟨by show k + 1 ≤ s.length + 1; omega, by show k + 1 ≤ 61; omega, hW2, hG.trans hG2, hOl2, hOBn, fun h => hton h, by show max nw to ≤ _; omega⟩ (by show s.length + 1 - (k + 1) < s.length + 1 - k; omega) (sub_cons rfl (sub_cons rfl (sub_cons rfl (sub_cons rfl (sub_cons rfl (sub_nil _)))))) rfl (by repeat (first | with_reducible exact HSub.refl _ | refine HSub.cons (by repeat (first | exact Take.here _ | apply Take.next | apply Take.app)) ?_ | refine HSub.app (by repeat (first | with_reducible exact TakeS.here _ | apply TakeS.next | apply TakeS.app)) ?_ | exact HSub.nil _ | exact HSub.refl _ | refine HSub.drop ?_ | refine HSub.dropS ?_))
    · skip
      refine W_exit rfl ?_
      refine W_sr ?_
      refine W_callp .nil Tryd.call16 rfl hT known_pure ?_
      refine W_move rfl rfl ?_
      refine W_gyes rfl rfl ?_
      refine W_move rfl rfl ?_
      refine W_gyes rfl rfl ?_
      obtain rfl : nw = 18446744073709551615 := hfin (by omega)
      obtain rfl : Li = [] := by rw [hG.left]; exact List.filter_eq_nil_iff.2 (fun t ht => by have := dueW hWi ht; simp; omega)
      refine W_call (.cons rfl .nil) Tryd.call17 rfl (LCalls.hsub (Len_W (H := (b14, .cells 39 100 ((OB).map Value.bool)) :: H) hWw) (by repeat (first | with_reducible exact HSub.refl _ | refine HSub.cons (by repeat (first | exact Take.here _ | apply Take.next | apply Take.app)) ?_ | refine HSub.app (by repeat (first | with_reducible exact TakeS.here _ | apply TakeS.next | apply TakeS.app)) ?_ | exact HSub.nil _ | exact HSub.refl _ | refine HSub.drop ?_ | refine HSub.dropS ?_))) ?_
      rintro v H' ⟨rfl, rfl⟩
      refine W_gyes rfl rfl ?_
      refine W_bin rfl rfl b_eql rfl ?_
      first | refine W_pickt rfl rfl rfl ?_ | refine W_pickf rfl rfl rfl ?_
      refine W_assign rfl rfl ?_
      refine W_nil ?_
      refine W_ret1m (H2 := H) Tryd.results5 rfl (.nil _) (by repeat (first | with_reducible exact HSub.refl _ | refine HSub.cons (by repeat (first | exact Take.here _ | apply Take.next | apply Take.app)) ?_ | refine HSub.app (by repeat (first | with_reducible exact TakeS.here _ | apply TakeS.next | apply TakeS.app)) ?_ | exact HSub.nil _ | exact HSub.refl _ | refine HSub.drop ?_ | refine HSub.dropS ?_)) ?_
      exact ⟨rfl, rfl⟩
theorem wheelOnce_pure {now : Nat} {l s : List Int} {ad as_ : Option Addr} {cap caps : Nat} (hwf : ∀ b ∈ l, 0 ≤ b ∧ b ≤ 18446744073709551615) (hwfs : ∀ b ∈ s, 0 ≤ b ∧ b ≤ 18446744073709551615) (hcap : l.length ≤ 9223372036854775807) (hcaps : s.length ≤ 9223372036854775807) (hnow : now ≤ 18446744073709551615) : Pure Tryd.prog (fun w => Tab w ∧ InRow w ad (l.map (Value.int .u64)) ∧ InRow w as_ (s.map (Value.int .u64))) 5 [.int .u64 ((now : Nat) : Int), .slice ad l.length cap, .slice as_ s.length caps] (.bool true) := by
  rcases Nat.lt_or_eq_of_le hnow with h | rfl
  · exact wheelOnce_L hwf hwfs hcap hcaps h
  · exact wheelOnce_M (now := 0) hwf hwfs hcap hcaps
end Go.Proofs.YtknbohnoiigioaaDoor
