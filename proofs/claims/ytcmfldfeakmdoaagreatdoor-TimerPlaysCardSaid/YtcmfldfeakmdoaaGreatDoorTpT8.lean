/-
  Own work: contracts of functions that the statement reaches, and plain facts on what they compute; each theorem says its conditions.
-/
import Derived.Test.YtcmfldfeakmdoaaGreatDoorTpT4
import Derived.Test.YtcmfldfeakmdoaaGreatDoorTpT5
import Derived.Test.YtcmfldfeakmdoaaGreatDoorTpS2
import Derived.Test.YtcmfldfeakmdoaaGreatDoorTpT6
import Derived.Test.YtcmfldfeakmdoaaGreatDoorTpT7
import Derived.Test.YtcmfldfeakmdoaaGreatDoorTpA
set_option linter.all false
set_option linter.unusedSimpArgs false
set_option linter.unusedVariables false
set_option maxHeartbeats 16000000
namespace Go.Proofs.YtcmfldfeakmdoaaGreatDoor
open Go Go.Sl
attribute [local irreducible] W
def thC (p : Int × Int) : List Value := [.int .i64 p.1, .int .i64 p.2]
abbrev thRow (L : List (Int × Int)) : List Value := L.flatMap thC
theorem th_len (p : Int × Int) : (thC p).length = 2 := rfl
theorem thRow_len (L : List (Int × Int)) : (thRow L).length = L.length * 2 := flat_length th_len L
theorem thRow_one (L : List (Int × Int)) : (thRow L).all Value.oneCell' = true := by
 rw [List.all_flatMap, List.all_eq_true]; exact fun t _ => rfl
theorem thRow_app (L M : List (Int × Int)) : thRow (L ++ M) = thRow L ++ thRow M := List.flatMap_append
theorem thRow_take (L : List (Int × Int)) (k : Nat) : (thRow L).take (k * 2) = thRow (L.take k) := Go.Sl.flat_take th_len L k
theorem thRow_drop (L : List (Int × Int)) : ∀ k, (thRow L).drop (k * 2) = thRow (L.drop k) := by
 induction L with
 | nil => intro k; simp [thRow]
 | cons t L ih =>
  intro k
  cases k with
  | zero => rw [Nat.zero_mul]; rfl
  | succ k =>
   have e : thRow (t :: L) = thC t ++ thRow L := rfl
   rw [e, List.drop_succ_cons, ← ih k, show (k + 1) * 2 = (thC t).length + k * 2 by rw [th_len]; omega, List.drop_append]
   simp
def fi (L : List (Int × Int)) (id : Int) : Option Nat := L.findIdx? (fun p => decide (p.1 = id))
def fiZ (L : List (Int × Int)) (id : Int) : Int := match fi L id with
 | some i => (i : Int)
 | none => -1
theorem fi_some {L : List (Int × Int)} {id : Int} {i : Nat} {p : Int × Int} (h : L[i]? = some p) (e : p.1 = id) (hf : ∀ (j : Nat) q, j < i → L[j]? = some q → q.1 ≠ id) : fi L id = some i := by
 obtain ⟨hl, hp⟩ := List.getElem?_eq_some_iff.1 h
 refine List.findIdx?_eq_some_iff_getElem.2 ⟨hl, by rw [hp]; exact decide_eq_true e, fun j hj => ?_⟩
 have := hf j _ hj (List.getElem?_eq_getElem zO)
 simpa using this
theorem fi_none {L : List (Int × Int)} {id : Int} (hf : ∀ (j : Nat) q, j < L.length → L[j]? = some q → q.1 ≠ id) : fi L id = none := by
 unfold fi
 rw [List.findIdx?_eq_none_iff]
 intro p hp
 obtain ⟨j, hj, e⟩ := List.getElem_of_mem hp
 exact decide_eq_false (hf j p hj (by rw [List.getElem?_eq_getElem hj, e]))
theorem fi_at {L : List (Int × Int)} {id : Int} {i : Nat} (h : fi L id = some i) : ∃ p, L[i]? = some p ∧ p.1 = id ∧ L.find? (fun p => decide (p.1 = id)) = some p := by
 obtain ⟨h1, h2, h3⟩ := List.findIdx?_eq_some_iff_getElem.1 h
 have e := of_decide_eq_true h2
 refine ⟨L[i], List.getElem?_eq_getElem h1, e, ?_⟩
 exact List.find?_eq_some_iff_getElem.2 ⟨by simpa using e, i, h1, rfl, fun j hj => by have := h3 j hj; simpa using this⟩
theorem fi_not {L : List (Int × Int)} {id : Int} (h : fi L id = none) : L.find? (fun p => decide (p.1 = id)) = none := by
 unfold fi at h
 rw [List.findIdx?_eq_none_iff] at h
 exact List.find?_eq_none.2 fun p hp => by have := h p hp; simpa using this
theorem fi_ways (L : List (Int × Int)) (id : Int) : (∃ i p, fi L id = some i ∧ fiZ L id = (i : Int) ∧ L[i]? = some p ∧ p.1 = id ∧ L.find? (fun p => decide (p.1 = id)) = some p) ∨ (fi L id = none ∧ fiZ L id = -1 ∧ L.find? (fun p => decide (p.1 = id)) = none) := by
 unfold fiZ
 cases h : fi L id with
 | some i =>
  obtain ⟨p, h1, h2, h3⟩ := fi_at h
  exact .inl ⟨i, p, rfl, rfl, h1, h2, h3⟩
 | none => exact .inr ⟨rfl, rfl, fi_not h⟩
theorem dfind_q {w0 : World} {H : Heap} {L : List (Int × Int)} {ad : Option Addr} {cap : Nat} {id : Int} (hl : L.length ≤ 1000000) (hrow : Holds w0 H ad (thRow L))  : PureAt Tryz.prog w0 H 69 [.slice ad L.length cap, .int .i64 id] (.int .i64 (fiZ L id)) := by
 refine L_enter Tryz.func69 rfl Tryz.ntmps69 rfl rfl ?_
 refine W_sr ?_
 refine W_assign rfl rfl ?_
 refine W_nil (W_seq (W_sr ?_))
 refine W_assign rfl rfl ?_
 refine W_nil (W_block ?_)
 refine W_loopC (X := Nat) [(0, _), (1, _)] (fun (i : Nat) => [(5, .int .i64 (i : Int))]) (fun _ => _) (fun (i : Nat) => H) (fun (i : Nat) => i ≤ L.length ∧ ∀ (j : Nat) q, j < i → L[j]? = some q → q.1 ≠ id) (fun (i : Nat) => L.length - i) 0 ⟨Nat.zero_le _, fun j q hj => absurd hj (Nat.not_lt_zero _)⟩ (sub_cons rfl (sub_cons rfl (sub_nil _))) (sub_cons rfl (sub_nil _)) rfl (.refl _) ?_
 rintro i ⟨hi, hno⟩
 simp only [List.cons_append, List.nil_append]
 refine W_seq (W_sr ?_)
 refine W_move rfl rfl ?_
 refine W_move rfl rfl ?_
 refine W_len rfl ty58 rfl rfl ?_
 refine W_bin rfl rfl b_lss rfl ?_
 refine W_nil ?_
 refine W_condPS (p := (i : Int) < (L.length : Int)) rfl (by simp) (fun q0 => ?_) (fun q0 => ?_)
 ·skip
  refine W_skip (W_seq ?_)
  refine W_block (W_sr ?_)
  obtain ⟨p, hp⟩ : ∃ p, L[i]? = some p := ⟨_, List.getElem?_eq_getElem zO⟩
  obtain ⟨q0, o0, eqq0, hc⟩ := Holds.row th_len zd hrow hp
  refine W_move rfl rfl ?_
  refine W_move rfl rfl ?_
  refine W_indexAddr (b := q0) (o := o0) (j := i) (by rw [← eqq0]; rfl) rfl ty58 ty121 rfl (by omega) rfl rfl ?_
  refine W_fieldAddr rfl fld121_0 zd rfl ?_
  refine W_load (v := .int .i64 p.1) rfl ty3 rfl ((hc 0 (.int .i64 p.1) rfl).up zH) rfl ?_
  refine W_move rfl rfl ?_
  refine W_bin rfl rfl b_eql rfl ?_
  refine W_nil ?_
  refine W_condPS (p := p.1 = id) rfl (by simp) (fun q1 => ?_) (fun q1 => ?_)
  ·skip
   refine W_sr ?_
   refine W_move rfl rfl ?_
   refine W_assign rfl rfl ?_
   refine W_nil ?_
   refine W_ret1m (H2 := H) Tryz.results69 rfl (.nil _) zH ?_
   refine ⟨?_, rfl⟩
   unfold fiZ
   rw [fi_some hp q1 hno]
  ·skip
   refine W_skip ?_
   refine W_blk ?_
   refine W_region ?_
   refine W_move rfl rfl ?_
   refine W_bin rfl rfl (b_add (m := ((i + 1 : Nat) : Int)) ((i64w zO).trans zO)) rfl ?_
   refine W_assign rfl rfl ?_
   refine W_nil ?_
   refine W_again (i + 1) ⟨by omega, fun j q hj hq => by
     by_cases e : j = i
     ·subst e
      obtain rfl := Option.some.inj (hq.symm.trans hp)
      exact q1
     ·exact hno j q zO hq⟩ zO (sub_cons rfl (sub_cons rfl (sub_cons rfl (sub_nil _)))) rfl (.refl _)
 ·skip
  refine W_exit rfl ?_
  refine W_sr ?_
  refine W_assign rfl rfl ?_
  refine W_nil ?_
  refine W_ret1m (H2 := H) Tryz.results69 rfl (.nil _) zH ?_
  refine ⟨?_, rfl⟩
  unfold fiZ
  rw [fi_none (fun j q hj hq => hno j q (by omega) hq)]
theorem dWhere_q {w0 : World} {H : Heap} {n cap1 cap2 : Nat} {Q Rs : List (Int × Int)} {ad1 ad2 : Option Addr} (hql : Q.length ≤ 1000000) (hrl : Rs.length ≤ 1000000) (hQ : Holds w0 H ad1 (thRow Q)) (hR : Holds w0 H ad2 (thRow Rs)) {id : Int}  : PureAt Tryz.prog w0 H 71 [.agg (List.toArray [.int .i64 (n : Int), .slice ad1 Q.length cap1, .slice ad2 Rs.length cap2]), .int .i64 id] (optV (whQ Q id)) := by
 refine L_enter Tryz.func71 rfl Tryz.ntmps71 rfl rfl ?_
 refine W_sr ?_
 refine W_box (l := [.int .i64 (n : Int), .slice ad1 Q.length cap1, .slice ad2 Rs.length cap2]) rfl rfl rfl (fun b2 => ?_)
 refine W_assign rfl rfl ?_
 refine W_assign rfl rfl ?_
 refine W_nil (W_sr ?_)
 refine W_fieldAddr rfl fld60_1 zd rfl ?_
 refine W_load (v := .slice ad1 Q.length cap1) rfl ty58 rfl (Cell.own (b := b2) zM rfl) rfl ?_
 refine W_move rfl rfl ?_
 refine W_callq (.cons rfl (.cons rfl .nil)) Tryz.call69 rfl (dfind_q (id := id) zO (hQ.up zH)) ?_
 rcases fi_ways Q id with ⟨i, p, e0, e1, hp, ep, ef⟩ | ⟨e0, e1, ef⟩ <;> rw [e1]
 ·skip
  have hil := (List.getElem?_eq_some_iff.1 hp).1
  obtain ⟨q0, o0, eqq0, hc⟩ := Holds.row th_len zd hQ hp
  refine W_assign rfl rfl ?_
  refine W_nil (W_seq (W_sr ?_))
  refine W_move rfl rfl ?_
  refine W_bin rfl rfl b_lss rfl ?_
  first | rw [decide_eq_true (by omega)] | rw [decide_eq_false (by omega)]
  refine W_nil ?_
  refine W_condF rfl rfl ?_
  refine W_skip (W_sr ?_)
  refine W_fieldAddr rfl fld60_1 zd rfl ?_
  refine W_load (v := .slice ad1 Q.length cap1) rfl ty58 rfl (Cell.own (b := b2) zM rfl) rfl ?_
  refine W_move rfl rfl ?_
  refine W_indexAddr (b := q0) (o := o0) (j := i) (by rw [← eqq0]; rfl) rfl ty58 ty121 rfl (by omega) rfl rfl ?_
  refine W_fieldAddr rfl fld121_1 zd rfl ?_
  refine W_load (v := .int .i64 p.2) rfl ty3 rfl ((hc 1 (.int .i64 p.2) rfl).up zH) rfl ?_
  refine W_assign rfl rfl ?_
  refine W_assign rfl rfl ?_
  refine W_nil ?_
  refine W_ret2m (H2 := H) Tryz.results71 rfl rfl (.nil _) zH ?_
  exact ⟨by unfold whQ; rw [ef]; rfl, rfl⟩
 ·skip
  refine W_assign rfl rfl ?_
  refine W_nil (W_seq (W_sr ?_))
  refine W_move rfl rfl ?_
  refine W_bin rfl rfl b_lss rfl ?_
  first | rw [decide_eq_true (by omega)] | rw [decide_eq_false (by omega)]
  refine W_nil ?_
  refine W_condT rfl rfl ?_
  refine W_sr ?_
  refine W_assign rfl rfl ?_
  refine W_assign rfl rfl ?_
  refine W_nil ?_
  refine W_ret2m (H2 := H) Tryz.results71 rfl rfl (.nil _) zH ?_
  exact ⟨by unfold whQ; rw [ef]; rfl, rfl⟩
theorem dIn_q {w0 : World} {H : Heap} {n cap1 cap2 : Nat} {Q Rs : List (Int × Int)} {ad1 ad2 : Option Addr} (hql : Q.length ≤ 1000000) (hrl : Rs.length ≤ 1000000) (hQ : Holds w0 H ad1 (thRow Q)) (hR : Holds w0 H ad2 (thRow Rs)) {id : Int}  : PureAt Tryz.prog w0 H 27 [.agg (List.toArray [.int .i64 (n : Int), .slice ad1 Q.length cap1, .slice ad2 Rs.length cap2]), .int .i64 id] (optV (inR Rs id)) := by
 refine L_enter Tryz.func27 rfl Tryz.ntmps27 rfl rfl ?_
 refine W_sr ?_
 refine W_box (l := [.int .i64 (n : Int), .slice ad1 Q.length cap1, .slice ad2 Rs.length cap2]) rfl rfl rfl (fun b2 => ?_)
 refine W_assign rfl rfl ?_
 refine W_assign rfl rfl ?_
 refine W_nil (W_sr ?_)
 refine W_fieldAddr rfl fld60_2 zd rfl ?_
 refine W_load (v := .slice ad2 Rs.length cap2) rfl ty58 rfl (Cell.own (b := b2) zM rfl) rfl ?_
 refine W_move rfl rfl ?_
 refine W_callq (.cons rfl (.cons rfl .nil)) Tryz.call69 rfl (dfind_q (id := id) zO (hR.up zH)) ?_
 rcases fi_ways Rs id with ⟨i, p, e0, e1, hp, ep, ef⟩ | ⟨e0, e1, ef⟩ <;> rw [e1]
 ·skip
  have hil := (List.getElem?_eq_some_iff.1 hp).1
  obtain ⟨q0, o0, eqq0, hc⟩ := Holds.row th_len zd hR hp
  refine W_assign rfl rfl ?_
  refine W_nil (W_seq (W_sr ?_))
  refine W_move rfl rfl ?_
  refine W_bin rfl rfl b_lss rfl ?_
  first | rw [decide_eq_true (by omega)] | rw [decide_eq_false (by omega)]
  refine W_nil ?_
  refine W_condF rfl rfl ?_
  refine W_skip (W_sr ?_)
  refine W_fieldAddr rfl fld60_2 zd rfl ?_
  refine W_load (v := .slice ad2 Rs.length cap2) rfl ty58 rfl (Cell.own (b := b2) zM rfl) rfl ?_
  refine W_move rfl rfl ?_
  refine W_indexAddr (b := q0) (o := o0) (j := i) (by rw [← eqq0]; rfl) rfl ty58 ty121 rfl (by omega) rfl rfl ?_
  refine W_fieldAddr rfl fld121_1 zd rfl ?_
  refine W_load (v := .int .i64 p.2) rfl ty3 rfl ((hc 1 (.int .i64 p.2) rfl).up zH) rfl ?_
  refine W_assign rfl rfl ?_
  refine W_assign rfl rfl ?_
  refine W_nil ?_
  refine W_ret2m (H2 := H) Tryz.results27 rfl rfl (.nil _) zH ?_
  exact ⟨by unfold inR; rw [ef]; rfl, rfl⟩
 ·skip
  refine W_assign rfl rfl ?_
  refine W_nil (W_seq (W_sr ?_))
  refine W_move rfl rfl ?_
  refine W_bin rfl rfl b_lss rfl ?_
  first | rw [decide_eq_true (by omega)] | rw [decide_eq_false (by omega)]
  refine W_nil ?_
  refine W_condT rfl rfl ?_
  refine W_sr ?_
  refine W_assign rfl rfl ?_
  refine W_assign rfl rfl ?_
  refine W_nil ?_
  refine W_ret2m (H2 := H) Tryz.results27 rfl rfl (.nil _) zH ?_
  exact ⟨by unfold inR; rw [ef]; rfl, rfl⟩
theorem of_hit {L : List (Int × Int)} {c : Int} {i : Nat} {p : Int × Int} (h : L[i]? = some p) (e : p.2 = c) (hf : ∀ (j : Nat) q, j < i → L[j]? = some q → q.2 ≠ c) : ofR L c = some p.1 := by
 obtain ⟨hl, hp⟩ := List.getElem?_eq_some_iff.1 h
 unfold ofR
 rw [List.find?_eq_some_iff_getElem.2 ⟨by simpa using e, i, hl, hp, fun j hj => by have := hf j _ hj (List.getElem?_eq_getElem (by omega)); simpa using this⟩]
 rfl
theorem of_miss {L : List (Int × Int)} {c : Int} (hf : ∀ (j : Nat) q, j < L.length → L[j]? = some q → q.2 ≠ c) : ofR L c = none := by
 unfold ofR
 rw [List.find?_eq_none.2 fun p hp => by
  obtain ⟨j, hj, e⟩ := List.getElem_of_mem hp
  have := hf j p hj (by rw [List.getElem?_eq_getElem hj, e])
  simpa using this]
 rfl
theorem dOf_q {w0 : World} {H : Heap} {n cap1 cap2 : Nat} {Q Rs : List (Int × Int)} {ad1 ad2 : Option Addr} (hql : Q.length ≤ 1000000) (hrl : Rs.length ≤ 1000000) (hQ : Holds w0 H ad1 (thRow Q)) (hR : Holds w0 H ad2 (thRow Rs)) {c : Int}  : PureAt Tryz.prog w0 H 117 [.agg (List.toArray [.int .i64 (n : Int), .slice ad1 Q.length cap1, .slice ad2 Rs.length cap2]), .int .i64 c] (optV (ofR Rs c)) := by
 refine L_enter Tryz.func117 rfl Tryz.ntmps117 rfl rfl ?_
 refine W_sr ?_
 refine W_box (l := [.int .i64 (n : Int), .slice ad1 Q.length cap1, .slice ad2 Rs.length cap2]) rfl rfl rfl (fun b2 => ?_)
 refine W_assign rfl rfl ?_
 refine W_assign rfl rfl ?_
 refine W_nil (W_seq (W_sr ?_))
 refine W_assign rfl rfl ?_
 refine W_nil (W_block ?_)
 refine W_loopC (X := Nat) [(1, _), (2, _)] (fun (i : Nat) => [(6, .int .i64 (i : Int))]) (fun _ => _) (fun (i : Nat) => (b2, .cells 60 3 [.int .i64 (n : Int), .slice ad1 Q.length cap1, .slice ad2 Rs.length cap2]) :: H) (fun (i : Nat) => i ≤ Rs.length ∧ ∀ (j : Nat) q, j < i → Rs[j]? = some q → q.2 ≠ c) (fun (i : Nat) => Rs.length - i) 0 ⟨Nat.zero_le _, fun j q hj => absurd hj (Nat.not_lt_zero _)⟩ (sub_cons rfl (sub_cons rfl (sub_nil _))) (sub_cons rfl (sub_nil _)) rfl zH ?_
 rintro i ⟨hi, hno⟩
 simp only [List.cons_append, List.nil_append]
 refine W_seq (W_sr ?_)
 refine W_move rfl rfl ?_
 refine W_fieldAddr rfl fld60_2 zd rfl ?_
 refine W_load (v := .slice ad2 Rs.length cap2) rfl ty58 rfl (Cell.own (b := b2) zM rfl) rfl ?_
 refine W_len rfl ty58 rfl rfl ?_
 refine W_bin rfl rfl b_lss rfl ?_
 refine W_nil ?_
 refine W_condPS (p := (i : Int) < (Rs.length : Int)) rfl (by simp) (fun q0 => ?_) (fun q0 => ?_)
 ·skip
  refine W_skip (W_seq ?_)
  refine W_block (W_sr ?_)
  obtain ⟨p, hp⟩ : ∃ p, Rs[i]? = some p := ⟨_, List.getElem?_eq_getElem zO⟩
  obtain ⟨q0, o0, eqq0, hc⟩ := Holds.row th_len zd hR hp
  refine W_fieldAddr rfl fld60_2 zd rfl ?_
  refine W_load (v := .slice ad2 Rs.length cap2) rfl ty58 rfl (Cell.own (b := b2) zM rfl) rfl ?_
  refine W_move rfl rfl ?_
  refine W_indexAddr (b := q0) (o := o0) (j := i) (by rw [← eqq0]; rfl) rfl ty58 ty121 rfl (by omega) rfl rfl ?_
  refine W_fieldAddr rfl fld121_1 zd rfl ?_
  refine W_load (v := .int .i64 p.2) rfl ty3 rfl ((hc 1 (.int .i64 p.2) rfl).up zH) rfl ?_
  refine W_move rfl rfl ?_
  refine W_bin rfl rfl b_eql rfl ?_
  refine W_nil ?_
  refine W_condPS (p := p.2 = c) rfl (by simp) (fun q1 => ?_) (fun q1 => ?_)
  ·skip
   refine W_sr ?_
   refine W_fieldAddr rfl fld60_2 zd rfl ?_
   refine W_load (v := .slice ad2 Rs.length cap2) rfl ty58 rfl (Cell.own (b := b2) zM rfl) rfl ?_
   refine W_move rfl rfl ?_
   refine W_indexAddr (b := q0) (o := o0) (j := i) (by rw [← eqq0]; rfl) rfl ty58 ty121 rfl (by omega) rfl rfl ?_
   refine W_fieldAddr rfl fld121_0 zd rfl ?_
   refine W_load (v := .int .i64 p.1) rfl ty3 rfl ((hc 0 (.int .i64 p.1) rfl).up zH) rfl ?_
   refine W_assign rfl rfl ?_
   refine W_assign rfl rfl ?_
   refine W_nil ?_
   refine W_ret2m (H2 := H) Tryz.results117 rfl rfl (.nil _) zH ?_
   exact ⟨by rw [of_hit hp q1 hno]; rfl, rfl⟩
  ·skip
   refine W_skip ?_
   refine W_blk ?_
   refine W_region ?_
   refine W_move rfl rfl ?_
   refine W_bin rfl rfl (b_add (m := ((i + 1 : Nat) : Int)) ((i64w zO).trans zO)) rfl ?_
   refine W_assign rfl rfl ?_
   refine W_nil ?_
   refine W_again (i + 1) ⟨by omega, fun j q hj hq => by
     by_cases e : j = i
     ·subst e
      obtain rfl := Option.some.inj (hq.symm.trans hp)
      exact q1
     ·exact hno j q zO hq⟩ zO (sub_cons rfl (sub_cons rfl (sub_cons rfl (sub_nil _)))) rfl zH
 ·skip
  refine W_exit rfl ?_
  refine W_sr ?_
  refine W_assign rfl rfl ?_
  refine W_assign rfl rfl ?_
  refine W_nil ?_
  refine W_ret2m (H2 := H) Tryz.results117 rfl rfl (.nil _) zH ?_
  exact ⟨by rw [of_miss (fun j q hj hq => hno j q (by omega) hq)]; rfl, rfl⟩
theorem quOf_snoc' {Q : List (Int × Int)} {p : Int × Int} {k : Int} (h : p.2 = k) : quOf (Q ++ [p]) k = quOf Q k ++ [p.1] := by
 obtain ⟨a, b⟩ := p
 rw [quOf_snoc, if_pos h]
theorem quOf_snocN {Q : List (Int × Int)} {p : Int × Int} {k : Int} (h : ¬ p.2 = k) : quOf (Q ++ [p]) k = quOf Q k := by
 obtain ⟨a, b⟩ := p
 rw [quOf_snoc, if_neg h, List.append_nil]
theorem dQueue_L {w0 : World} {H : Heap} {n cap1 cap2 : Nat} {Q Rs : List (Int × Int)} {ad1 ad2 : Option Addr} (hql : Q.length ≤ 1000000) (hrl : Rs.length ≤ 1000000) (hQ : Holds w0 H ad1 (thRow Q)) (hR : Holds w0 H ad2 (thRow Rs)) {k : Int}  : LCalls Tryz.prog w0 67 #[.agg (List.toArray [.int .i64 (n : Int), .slice ad1 Q.length cap1, .slice ad2 Rs.length cap2]), .int .i64 k] (H) (fun v H' => ∃ X, OwnS 3 1 v (quOf Q k).length ((quOf Q k).map (Value.int .i64)) X ∧ H' = X ++ H) := by
 refine L_enter (l := [.agg (List.toArray [.int .i64 (n : Int), .slice ad1 Q.length cap1, .slice ad2 Rs.length cap2]), .int .i64 k]) Tryz.func67 rfl Tryz.ntmps67 rfl rfl ?_
 refine W_sr ?_
 refine W_box (l := [.int .i64 (n : Int), .slice ad1 Q.length cap1, .slice ad2 Rs.length cap2]) rfl rfl rfl (fun b2 => ?_)
 refine W_assign rfl rfl ?_
 refine W_nil (W_sr ?_)
 refine W_assign rfl rfl ?_
 refine W_nil (W_seq (W_sr ?_))
 refine W_assign rfl rfl ?_
 refine W_nil (W_block ?_)
 refine W_loopC (X := (Nat × Value × Heap)) [(1, _), (2, _)] (fun (x : (Nat × Value × Heap)) => [(5, x.2.1), (6, .int .i64 (x.1 : Int))]) (fun _ => _) (fun (x : (Nat × Value × Heap)) => x.2.2 ++ ((b2, .cells 60 3 [.int .i64 (n : Int), .slice ad1 Q.length cap1, .slice ad2 Rs.length cap2]) :: H)) (fun (x : (Nat × Value × Heap)) => x.1 ≤ Q.length ∧ OwnS 3 1 x.2.1 (quOf (Q.take x.1) k).length ((quOf (Q.take x.1) k).map (Value.int .i64)) x.2.2) (fun (x : (Nat × Value × Heap)) => Q.length - x.1) (0, .slice none 0 0, []) ⟨Nat.zero_le _, .nil⟩ (sub_cons rfl (sub_cons rfl (sub_nil _))) (sub_cons rfl (sub_cons rfl (sub_nil _))) rfl zH ?_
 rintro ⟨i, v, X⟩ ⟨hi, hO⟩
 dsimp only at hi hO ⊢
 have hqk : (quOf (Q.take i) k).length ≤ 1000000 := by unfold quOf; rw [List.length_map]; exact Nat.le_trans (List.length_filter_le _ _) (by rw [List.length_take]; omega)
 simp only [List.cons_append, List.nil_append]
 refine W_seq (W_sr ?_)
 refine W_move rfl rfl ?_
 refine W_fieldAddr rfl fld60_1 zd rfl ?_
 refine W_load (v := .slice ad1 Q.length cap1) rfl ty58 rfl (Cell.own (b := b2) zM rfl) rfl ?_
 refine W_len rfl ty58 rfl rfl ?_
 refine W_bin rfl rfl b_lss rfl ?_
 refine W_nil ?_
 refine W_condPS (p := (i : Int) < (Q.length : Int)) rfl (by simp) (fun q0 => ?_) (fun q0 => ?_)
 ·skip
  refine W_skip (W_seq ?_)
  refine W_block (W_sr ?_)
  obtain ⟨p, hp⟩ : ∃ p, Q[i]? = some p := ⟨_, List.getElem?_eq_getElem zO⟩
  obtain ⟨q0, o0, eqq0, hc⟩ := Holds.row th_len zd hQ hp
  refine W_fieldAddr rfl fld60_1 zd rfl ?_
  refine W_load (v := .slice ad1 Q.length cap1) rfl ty58 rfl (Cell.own (b := b2) zM rfl) rfl ?_
  refine W_move rfl rfl ?_
  refine W_indexAddr (b := q0) (o := o0) (j := i) (by rw [← eqq0]; rfl) rfl ty58 ty121 rfl (by omega) rfl rfl ?_
  refine W_fieldAddr rfl fld121_1 zd rfl ?_
  refine W_load (v := .int .i64 p.2) rfl ty3 rfl ((hc 1 (.int .i64 p.2) rfl).up zH) rfl ?_
  refine W_move rfl rfl ?_
  refine W_bin rfl rfl b_eql rfl ?_
  refine W_nil ?_
  refine W_condPS (p := p.2 = k) rfl (by simp) (fun q1 => ?_) (fun q1 => ?_)
  ·skip
   refine W_region ?_
   refine W_move rfl rfl ?_
   refine W_fieldAddr rfl fld60_1 zd rfl ?_
   refine W_load (v := .slice ad1 Q.length cap1) rfl ty58 rfl (Cell.own (b := b2) zM rfl) rfl ?_
   refine W_move rfl rfl ?_
   refine W_indexAddr (b := q0) (o := o0) (j := i) (by rw [← eqq0]; rfl) rfl ty58 ty121 rfl (by omega) rfl rfl ?_
   refine W_fieldAddr rfl fld121_0 zd rfl ?_
   refine W_load (v := .int .i64 p.1) rfl ty3 rfl ((hc 0 (.int .i64 p.1) rfl).up zH) rfl ?_
   refine W_buildSlice (l := [.int .i64 p.1]) ty24 ty3 (.cons rfl rfl rfl rfl rfl .nil) rfl rfl rfl rfl rfl rfl rfl (fun b29 => ?_)
   refine W_append (news := [.int .i64 p.1]) (m := 1) (HB := X) (H0 := (b29, .cells 3 1 [.int .i64 p.1]) :: (b2, .cells 60 3 [.int .i64 (n : Int), .slice ad1 Q.length cap1, .slice ad2 Rs.length cap2]) :: H) rfl rfl ty24 ty3 rfl (by decide) hO rfl (Holds.own (b := b29) zM) rfl (by simp only [maxLen]; omega) (by omega) zH rfl (fun v' X' hO' => ?_)
   refine W_assign rfl rfl ?_
   refine W_nil ?_
   refine W_blk ?_
   refine W_region ?_
   refine W_move rfl rfl ?_
   refine W_bin rfl rfl (b_add (m := ((i + 1 : Nat) : Int)) ((i64w zO).trans zO)) rfl ?_
   refine W_assign rfl rfl ?_
   refine W_nil ?_
   refine W_again (i + 1, v', X') ⟨by show i + 1 ≤ Q.length; omega, by show OwnS 3 1 v' (quOf (Q.take (i + 1)) k).length ((quOf (Q.take (i + 1)) k).map (Value.int .i64)) X'; rw [takeAt hp, quOf_snoc' q1, List.length_append, List.map_append]; exact hO'⟩ (by show Q.length - (i + 1) < Q.length - i; omega) (sub_cons rfl (sub_cons rfl (sub_cons rfl (sub_cons rfl (sub_nil _))))) rfl zH
  ·skip
   refine W_skip ?_
   refine W_blk ?_
   refine W_region ?_
   refine W_move rfl rfl ?_
   refine W_bin rfl rfl (b_add (m := ((i + 1 : Nat) : Int)) ((i64w zO).trans zO)) rfl ?_
   refine W_assign rfl rfl ?_
   refine W_nil ?_
   refine W_again (i + 1, v, X) ⟨by show i + 1 ≤ Q.length; omega, by show OwnS 3 1 v (quOf (Q.take (i + 1)) k).length ((quOf (Q.take (i + 1)) k).map (Value.int .i64)) X; rw [takeAt hp, quOf_snocN q1]; exact hO⟩ (by show Q.length - (i + 1) < Q.length - i; omega) (sub_cons rfl (sub_cons rfl (sub_cons rfl (sub_cons rfl (sub_nil _))))) rfl zH
 ·skip
  refine W_exit rfl ?_
  refine W_sr ?_
  refine W_move rfl rfl ?_
  refine W_assign rfl rfl ?_
  refine W_nil ?_
  refine W_ret1m (H2 := X ++ H) Tryz.results67 rfl (.nil _) zH ?_
  obtain rfl : i = Q.length := by omega
  rw [List.take_length] at hO
  exact ⟨X, hO, rfl⟩
theorem dwithout_L {w0 : World} {H : Heap} {L : List (Int × Int)} {ad : Option Addr} {cap i : Nat} {p : Int × Int} (hl : L.length ≤ 1000000) (hcap : L.length ≤ cap) (hrow : Holds w0 H ad (thRow L)) (hi : L[i]? = some p)  : LCalls Tryz.prog w0 118 #[.slice ad L.length cap, .int .i64 (i : Int)] (H) (fun v H' => ∃ X, OwnS 121 2 v (L.eraseIdx i).length (thRow (L.eraseIdx i)) X ∧ H' = X ++ H) := by
 have hil := (List.getElem?_eq_some_iff.1 hi).1
 refine L_enter (l := [.slice ad L.length cap, .int .i64 (i : Int)]) Tryz.func118 rfl Tryz.ntmps118 rfl rfl ?_
 refine W_sr ?_
 refine W_assign rfl rfl ?_
 refine W_nil (W_sr ?_)
 refine W_buildSlice (l := []) ty58 ty121 .nil rfl rfl rfl rfl rfl rfl rfl (fun b6 => ?_)
 refine W_move rfl rfl ?_
 refine W_move rfl rfl ?_
 obtain ⟨b0, o0, rfl, _⟩ := Holds.row th_len zd hrow hi
 refine W_slice0 (hh := i) rfl ty58 ty121 rfl ⟨_, rfl⟩ zO rfl ?_
 refine W_append (news := thRow (L.take i)) (m := i) (HB := [(b6, .cells 121 0 [])]) (H0 := H) rfl rfl ty58 ty121 rfl (by decide) (OwnS.own (n := 0) (cap := 0) (xs := []) rfl (Nat.le_refl _) (Nat.zero_le _)) (by rw [thRow_len, List.length_take]; congr 1; omega) (by rw [← thRow_take]; exact (hrow.take _).up zH) (thRow_one _) (by simp only [maxLen]; omega) (by omega) (.refl _) rfl (fun v1 X1 hO1 => ?_)
 refine W_assign rfl rfl ?_
 refine W_nil (W_sr ?_)
 refine W_move rfl rfl ?_
 refine W_move rfl rfl ?_
 refine W_move rfl rfl ?_
 refine W_bin rfl rfl (b_add (m := ((i + 1 : Nat) : Int)) (by rw [i64w (by omega)]; omega)) rfl ?_
 obtain ⟨o1, ho1⟩ : ∃ o1, o1 = if cap = i + 1 then o0 else o0 + (i + 1) * 2 := ⟨_, rfl⟩
 have hdr : Holds w0 H (some ⟨b0, o1, none⟩) (thRow (L.drop (i + 1))) := by
  rw [← thRow_drop]
  exact Holds.drop (cap := cap * 2) hrow (by rw [thRow_len]; omega) (fun h => by rw [ho1, if_neg (by omega)])
 refine W_x (X_sliceAt (l := i + 1) (hh := L.length) rfl ty58 ty121 ⟨_, rfl⟩ rfl zO hcap ho1) (fun _ h => by cases h) rfl ?_
 refine W_append (news := thRow (L.drop (i + 1))) (m := L.length - (i + 1)) (HB := X1) (H0 := H) rfl rfl ty58 ty121 rfl (by decide) hO1 (by rw [thRow_len, List.length_drop]) (hdr.up zH) (thRow_one _) (by simp only [maxLen]; omega) (by omega) zH rfl (fun v2 X2 hO2 => ?_)
 refine W_assign rfl rfl ?_
 refine W_nil ?_
 refine W_ret1m (H2 := X2 ++ H) Tryz.results118 rfl (.nil _) zH ?_
 refine ⟨X2, ?_, rfl⟩
 rw [List.eraseIdx_eq_take_drop_succ, thRow_app, List.length_append, List.length_take, List.length_drop, Nat.min_eq_left (by omega)]
 simp only [Nat.zero_add, List.nil_append] at hO2 ⊢
 exact hO2
def PdV (w0 : World) (HR : Heap) (n : Nat) (Q Rs : List (Int × Int)) (cs : List Value) : Prop := ∃ ad1 cap1 ad2 cap2, cs = [.int .i64 (n : Int), .slice ad1 Q.length cap1, .slice ad2 Rs.length cap2] ∧ Q.length ≤ cap1 ∧ Rs.length ≤ cap2 ∧ Holds w0 HR ad1 (thRow Q) ∧ Holds w0 HR ad2 (thRow Rs)
theorem delQ_erase : ∀ {Q : List (Int × Int)} {i : Nat} {p : Int × Int}, (Q.map (·.1)).Nodup → Q[i]? = some p → delQ Q p.1 = Q.eraseIdx i
 | y :: Q, 0, p, hn, h => by
  obtain rfl : y = p := by simpa using h
  rw [List.map_cons, List.nodup_cons] at hn
  unfold delQ
  rw [List.filter_cons_of_neg (by simp), List.eraseIdx_zero, List.tail_cons]
  exact List.filter_eq_self.2 fun z hz => decide_eq_true (p := z.1 ≠ y.1) (fun (e : z.1 = y.1) => hn.1 (List.mem_map.2 ⟨z, hz, e⟩))
 | y :: Q, i + 1, p, hn, h => by
  rw [List.map_cons, List.nodup_cons] at hn
  have hp : Q[i]? = some p := by simpa using h
  have ih := delQ_erase hn.2 hp
  unfold delQ at ih ⊢
  rw [List.filter_cons_of_pos (by simpa using fun e : y.1 = p.1 => hn.1 (List.mem_map.2 ⟨p, List.mem_of_getElem? hp, e.symm⟩)), List.eraseIdx_cons_succ, ih]
theorem whQ_fi {Q : List (Int × Int)} {id : Int} {p : Int × Int} (h : Q.find? (fun p => decide (p.1 = id)) = some p) : (whQ Q id).isSome = true := by unfold whQ; rw [h]; rfl
theorem whQ_nf {Q : List (Int × Int)} {id : Int} (h : Q.find? (fun p => decide (p.1 = id)) = none) : whQ Q id = none := by unfold whQ; rw [h]; rfl
theorem dDel_L {w0 : World} {H : Heap} {HR : Heap} {n : Nat} {Q Rs : List (Int × Int)} {cs : List Value} (hv : PdV w0 HR n Q Rs cs) (hHR : HSub H HR) (hq : QOk n Q) (hrl : Rs.length ≤ 1000) {id : Int}  : LCalls Tryz.prog w0 113 #[.agg (List.toArray cs), .int .i64 id] (H) (fun v H' => ∃ cs1 X, v = .tuple #[.agg (List.toArray cs1), .bool (whQ Q id).isSome] ∧ PdV w0 (X ++ HR) n (delQ Q id) (Rs) cs1 ∧ H' = X ++ H) := by
 obtain ⟨ad1, cap1, ad2, cap2, rfl, hc1, hc2, hQ0, hR0⟩ := hv
 have hQ := hQ0.up hHR
 have hR := hR0.up hHR
 have hql := Q_len hq
 refine L_enter (l := [.agg (List.toArray [.int .i64 (n : Int), .slice ad1 Q.length cap1, .slice ad2 Rs.length cap2]), .int .i64 id]) Tryz.func113 rfl Tryz.ntmps113 rfl rfl ?_
 refine W_sr ?_
 refine W_box (l := [.int .i64 (n : Int), .slice ad1 Q.length cap1, .slice ad2 Rs.length cap2]) rfl rfl rfl (fun b2 => ?_)
 refine W_alloc (l := [.int .i64 0, .slice none 0 0, .slice none 0 0]) ty60 rfl rfl (fun b4 => ?_)
 refine W_assign rfl rfl ?_
 refine W_nil (W_sr ?_)
 refine W_fieldAddr rfl fld60_1 zd rfl ?_
 refine W_load (v := .slice ad1 Q.length cap1) rfl ty58 rfl (Cell.own (b := b2) zM rfl) rfl ?_
 refine W_move rfl rfl ?_
 refine W_callq (.cons rfl (.cons rfl .nil)) Tryz.call69 rfl (dfind_q (id := id) zO (hQ.up zH)) ?_
 rcases fi_ways Q id with ⟨i, p, e0, e1, hp, ep, ef⟩ | ⟨e0, e1, ef⟩ <;> rw [e1]
 ·skip
  refine W_assign rfl rfl ?_
  refine W_nil (W_seq (W_sr ?_))
  refine W_move rfl rfl ?_
  refine W_bin rfl rfl b_lss rfl ?_
  first | rw [decide_eq_true (by omega)] | rw [decide_eq_false (by omega)]
  refine W_nil ?_
  refine W_condF rfl rfl ?_
  refine W_skip (W_sr ?_)
  refine W_fieldAddr rfl fld60_1 zd rfl ?_
  refine W_load (v := .slice ad1 Q.length cap1) rfl ty58 rfl (Cell.own (b := b2) zM rfl) rfl ?_
  refine W_move rfl rfl ?_
  refine W_call (.cons rfl (.cons rfl .nil)) Tryz.call118 rfl (LCalls.hsub (dwithout_L (L := Q) (cap := cap1) zO hc1 (hQ.up zH) hp (H := (b2, .cells 60 3 [.int .i64 (n : Int), .slice ad1 Q.length cap1, .slice ad2 Rs.length cap2]) :: (b4, .cells 60 3 [.int .i64 0, .slice none 0 0, .slice none 0 0]) :: H)) zH) ?_
  rintro v H' ⟨X, hO, rfl⟩
  obtain ⟨ad3, cap3, rfl, hc3, _⟩ := hO.shape
  have hdq : delQ Q id = Q.eraseIdx i := by rw [← ep]; exact delQ_erase hq.ids hp
  refine W_fieldAddr rfl fld60_1 zd rfl ?_
  refine W_store (l' := [.int .i64 (n : Int), .slice ad3 (Q.eraseIdx i).length cap3, .slice ad2 (Rs).length cap2]) rfl rfl ty58 rfl rfl (b := b2) zM rfl rfl zU ?_
  refine W_nil (W_sr ?_)
  refine W_loadB (vs := [.int .i64 (n : Int), .slice ad3 (Q.eraseIdx i).length cap3, .slice ad2 (Rs).length cap2]) rfl ty60 rfl (b := b2) zM rfl rfl rfl ?_
  refine W_storeA (l' := [.int .i64 (n : Int), .slice ad3 (Q.eraseIdx i).length cap3, .slice ad2 (Rs).length cap2]) rfl rfl ty60 rfl rfl (b := b4) zM (by exact Nat.le_refl 3) rfl zU ?_
  refine W_assign rfl rfl ?_
  refine W_nil ?_
  refine W_ret2G (H2 := X ++ H) Tryz.results113 (.nil _) (.own rfl ty60 rfl zM rfl) (.tmp rfl) zH ?_
  rw [whQ_fi ef, hdq]
  exact ⟨_, X, rfl, ⟨ad3, cap3, ad2, cap2, rfl, hc3, hc2, OwnS.holds hO (fun p hp => List.mem_append_left _ hp), hR0.up (.dropS (.refl _))⟩, rfl⟩
 ·skip
  refine W_assign rfl rfl ?_
  refine W_nil (W_seq (W_sr ?_))
  refine W_move rfl rfl ?_
  refine W_bin rfl rfl b_lss rfl ?_
  first | rw [decide_eq_true (by omega)] | rw [decide_eq_false (by omega)]
  refine W_nil ?_
  refine W_condT rfl rfl ?_
  refine W_sr ?_
  refine W_loadB (vs := [.int .i64 (n : Int), .slice ad1 Q.length cap1, .slice ad2 Rs.length cap2]) rfl ty60 rfl (b := b2) zM rfl rfl rfl ?_
  refine W_storeA (l' := [.int .i64 (n : Int), .slice ad1 Q.length cap1, .slice ad2 Rs.length cap2]) rfl rfl ty60 rfl rfl (b := b4) zM (by exact Nat.le_refl 3) rfl zU ?_
  refine W_assign rfl rfl ?_
  refine W_nil ?_
  refine W_ret2G (H2 := H) Tryz.results113 (.nil _) (.own rfl ty60 rfl zM rfl) (.tmp rfl) zH ?_
  rw [delQ_no hq (whQ_nf ef), whQ_nf ef]
  exact ⟨_, [], rfl, ⟨ad1, cap1, ad2, cap2, rfl, hc1, hc2, hQ0, hR0⟩, rfl⟩
theorem dReady_L {w0 : World} {H : Heap} {HR : Heap} {n : Nat} {Q Rs : List (Int × Int)} {cs : List Value} (hv : PdV w0 HR n Q Rs cs) (hHR : HSub H HR) (hq : QOk n Q) (hrl : Rs.length ≤ 1000) {cpu : Int}  : LCalls Tryz.prog w0 25 #[.agg (List.toArray cs), .int .i64 cpu] (H) (fun v H' => v = .tuple #[.int .i64 (rdyQ Q Rs cpu).1, .bool (rdyQ Q Rs cpu).2] ∧ H' = H) := by
 obtain ⟨ad1, cap1, ad2, cap2, rfl, hc1, hc2, hQ0, hR0⟩ := hv
 have hQ := hQ0.up hHR
 have hR := hR0.up hHR
 have hql := Q_len hq
 refine L_enter (l := [.agg (List.toArray [.int .i64 (n : Int), .slice ad1 Q.length cap1, .slice ad2 Rs.length cap2]), .int .i64 cpu]) Tryz.func25 rfl Tryz.ntmps25 rfl rfl ?_
 refine W_sr ?_
 refine W_box (l := [.int .i64 (n : Int), .slice ad1 Q.length cap1, .slice ad2 Rs.length cap2]) rfl rfl rfl (fun b2 => ?_)
 refine W_assign rfl rfl ?_
 refine W_assign rfl rfl ?_
 refine W_nil (W_sr ?_)
 refine W_loadB (vs := [.int .i64 (n : Int), .slice ad1 Q.length cap1, .slice ad2 Rs.length cap2]) rfl ty60 rfl (b := b2) zM rfl rfl rfl ?_
 refine W_move rfl rfl ?_
 refine W_call (.cons rfl (.cons rfl .nil)) Tryz.call67 rfl (LCalls.hsub (dQueue_L (k := cpu) zO zO (hQ.up zH) (hR.up zH) (H := (b2, .cells 60 3 [.int .i64 (n : Int), .slice ad1 Q.length cap1, .slice ad2 Rs.length cap2]) :: H)) zH) ?_
 rintro v H' ⟨X, hO, rfl⟩
 rcases hqk : quOf Q cpu with _ | ⟨z, lz⟩ <;> rw [hqk] at hO
 ·skip
  obtain ⟨ad3, cap3, rfl, hc3, _⟩ := hO.shape
  refine W_assign rfl rfl ?_
  refine W_nil (W_seq (W_sr ?_))
  refine W_move rfl rfl ?_
  refine W_len rfl ty24 rfl rfl ?_
  refine W_bin rfl rfl b_eql rfl ?_
  refine W_nil ?_
  refine W_condT rfl rfl ?_
  refine W_sr ?_
  refine W_assign rfl rfl ?_
  refine W_assign rfl rfl ?_
  refine W_nil ?_
  refine W_ret2m (H2 := H) Tryz.results25 rfl rfl (.nil _) zH ?_
  exact ⟨by unfold rdyQ; rw [hqk], rfl⟩
 ·skip
  obtain ⟨ad3, cap3, rfl, hc3, _, hh⟩ := Holds.of_own (w0 := w0) (H := X ++ []) hO (fun p hp => List.mem_append_left _ hp)
  obtain ⟨q0, o0, rfl, hcz⟩ := hh.at (i := 0) (v := .int .i64 z) rfl
  refine W_assign rfl rfl ?_
  refine W_nil (W_seq (W_sr ?_))
  refine W_move rfl rfl ?_
  refine W_len rfl ty24 rfl rfl ?_
  refine W_bin rfl rfl b_eql rfl ?_
  rw [decide_eq_false (by simp only [List.length_cons]; omega)]
  refine W_nil ?_
  refine W_condF rfl rfl ?_
  refine W_skip ?_
  refine W_quietsr zk zK ?_
  refine WQ_x (X_loadB (vs := [.int .i64 (n : Int), .slice ad1 Q.length cap1, .slice ad2 Rs.length cap2]) rfl ty60 rfl (b := b2) zM rfl rfl) rfl ?_
  refine WQ_x (X_move rfl) rfl ?_
  refine WQ_x (X_indexAddr (j := 0) rfl rfl ty24 ty3 (by first | rfl | omega) (by first | decide | omega | simp) rfl) rfl ?_
  refine WQ_x (X_load (v := .int .i64 z) rfl ty3 rfl (by rw [Nat.mul_one 0]; exact hcz.up zH)) rfl ?_
  refine WQ_callq (.cons rfl (.cons rfl .nil)) Tryz.call27 rfl (dIn_q (n := n) (cap1 := cap1) (cap2 := cap2) (Q := Q) (Rs := Rs) (ad1 := ad1) (ad2 := ad2) (id := z) zO zO (hQ.up zH) (hR.up zH)) ?_
  obtain ⟨rx, rb, er, erb⟩ : ∃ (x : Int) (b : Bool), optV (inR Rs z) = .tuple #[.int .i64 x, .bool b] ∧ b = (inR Rs z).isSome := by cases inR Rs z <;> exact ⟨_, _, rfl, rfl⟩
  rw [er]
  refine WQ_x (X_move rfl) rfl ?_
  refine WQ_x (X_extract rfl rfl) rfl ?_
  refine WQ_x (X_extract rfl rfl) rfl ?_
  refine WQ_x (X_assign rfl) rfl ?_
  refine WQ_x (X_assign rfl) rfl ?_
  refine WQ_nil ?_
  refine W_sr ?_
  refine W_move rfl rfl ?_
  refine W_indexAddr (j := 0) rfl rfl ty24 ty3 (by first | rfl | omega) (by first | decide | omega | simp) rfl rfl ?_
  refine W_load (v := .int .i64 z) rfl ty3 rfl (by rw [Nat.mul_one 0]; exact hcz.up zH) rfl ?_
  refine W_move rfl rfl ?_
  refine W_not rfl rfl ?_
  refine W_assign rfl rfl ?_
  refine W_assign rfl rfl ?_
  refine W_nil ?_
  refine W_ret2m (H2 := H) Tryz.results25 rfl rfl (.nil _) zH ?_
  exact ⟨by unfold rdyQ; rw [hqk]; dsimp only; rw [erb]; cases inR Rs z <;> rfl, rfl⟩
theorem dEnd_L {w0 : World} {H : Heap} {HR : Heap} {n : Nat} {Q Rs : List (Int × Int)} {cs : List Value} (hv : PdV w0 HR n Q Rs cs) (hHR : HSub H HR) (hq : QOk n Q) (hrl : Rs.length ≤ 1000) {c : Int} (hrn : (Rs.map (·.1)).Nodup) (hri : ∀ z, ofR Rs c = some z → (inR Rs z).isSome = true)  : LCalls Tryz.prog w0 99 #[.agg (List.toArray cs), .int .i64 c] (H) (fun v H' => ∃ cs1 X, v = .tuple #[.agg (List.toArray cs1), .int .i64 (endQ Rs c).2.1, .int .i64 (endQ Rs c).2.2] ∧ PdV w0 (X ++ HR) n (Q) ((endQ Rs c).1) cs1 ∧ H' = X ++ H) := by
 obtain ⟨ad1, cap1, ad2, cap2, rfl, hc1, hc2, hQ0, hR0⟩ := hv
 have hQ := hQ0.up hHR
 have hR := hR0.up hHR
 have hql := Q_len hq
 refine L_enter (l := [.agg (List.toArray [.int .i64 (n : Int), .slice ad1 Q.length cap1, .slice ad2 Rs.length cap2]), .int .i64 c]) Tryz.func99 rfl Tryz.ntmps99 rfl rfl ?_
 refine W_sr ?_
 refine W_box (l := [.int .i64 (n : Int), .slice ad1 Q.length cap1, .slice ad2 Rs.length cap2]) rfl rfl rfl (fun b2 => ?_)
 refine W_alloc (l := [.int .i64 0, .slice none 0 0, .slice none 0 0]) ty60 rfl rfl (fun b4 => ?_)
 refine W_assign rfl rfl ?_
 refine W_assign rfl rfl ?_
 refine W_nil (W_sr ?_)
 refine W_loadB (vs := [.int .i64 (n : Int), .slice ad1 Q.length cap1, .slice ad2 Rs.length cap2]) rfl ty60 rfl (b := b2) zM rfl rfl rfl ?_
 refine W_move rfl rfl ?_
 refine W_callq (.cons rfl (.cons rfl .nil)) Tryz.call117 rfl (dOf_q (n := n) (cap1 := cap1) (cap2 := cap2) (Q := Q) (Rs := Rs) (ad1 := ad1) (ad2 := ad2) (c := c) zO zO (hQ.up zH) (hR.up zH)) ?_
 rcases hof : ofR Rs c with _ | z
 ·skip
  rw [show optV none = .tuple #[.int .i64 0, .bool false] from rfl]
  refine W_move rfl rfl ?_
  refine W_extract rfl rfl rfl ?_
  refine W_extract rfl rfl rfl ?_
  refine W_assign rfl rfl ?_
  refine W_assign rfl rfl ?_
  refine W_nil (W_seq (W_sr ?_))
  refine W_move rfl rfl ?_
  refine W_not rfl rfl ?_
  refine W_nil ?_
  refine W_condT rfl rfl ?_
  refine W_sr ?_
  refine W_loadB (vs := [.int .i64 (n : Int), .slice ad1 Q.length cap1, .slice ad2 Rs.length cap2]) rfl ty60 rfl (b := b2) zM rfl rfl rfl ?_
  refine W_storeA (l' := [.int .i64 (n : Int), .slice ad1 Q.length cap1, .slice ad2 Rs.length cap2]) rfl rfl ty60 rfl rfl (b := b4) zM (by exact Nat.le_refl 3) rfl zU ?_
  refine W_assign rfl rfl ?_
  refine W_assign rfl rfl ?_
  refine W_nil ?_
  refine W_ret3G (H2 := H) Tryz.results99 (.nil _) (.own rfl ty60 rfl zM rfl) (.tmp rfl) (.tmp rfl) zH ?_
  unfold endQ
  rw [hof]
  exact ⟨_, [], rfl, ⟨ad1, cap1, ad2, cap2, rfl, hc1, hc2, hQ0, hR0⟩, rfl⟩
 ·skip
  rw [show optV (some z) = .tuple #[.int .i64 z, .bool true] from rfl]
  refine W_move rfl rfl ?_
  refine W_extract rfl rfl rfl ?_
  refine W_extract rfl rfl rfl ?_
  refine W_assign rfl rfl ?_
  refine W_assign rfl rfl ?_
  refine W_nil (W_seq (W_sr ?_))
  refine W_move rfl rfl ?_
  refine W_not rfl rfl ?_
  refine W_nil ?_
  refine W_condF rfl rfl ?_
  refine W_skip (W_seq ?_)
  have hin := hri z hof
  refine W_anyS [(b2, .cells 60 3 [.int .i64 (n : Int), .slice ad1 Q.length cap1, .slice ad2 Rs.length cap2])] 8 zk ?_
  refine WS_take 0 (l' := #[true, false, false, false, false, false, false, false, false]) rfl rfl zK zK zK zK rfl zK (X_fieldAddr rfl fld60_2 zd) rfl ?_
  refine WS_take 1 (l' := #[true, true, false, false, false, false, false, false, false]) rfl rfl zK zK zK zK rfl zK (X_load (v := .slice ad2 Rs.length cap2) rfl ty58 rfl (Cell.own (b := b2) zM rfl)) rfl ?_
  refine WS_take 2 (l' := #[true, true, true, false, false, false, false, false, false]) rfl rfl zK zK zK zK rfl zK (X_fieldAddr rfl fld60_2 zd) rfl ?_
  refine WS_take 3 (l' := #[true, true, true, true, false, false, false, false, false]) rfl rfl zK zK zK zK rfl zK (X_load (v := .slice ad2 Rs.length cap2) rfl ty58 rfl (Cell.own (b := b2) zM rfl)) rfl ?_
  refine WS_take 4 (l' := #[true, true, true, true, true, false, false, false, false]) rfl rfl zK zK zK zK rfl zK (X_move rfl) rfl ?_
  refine WS_one 5 (l' := #[true, true, true, true, true, true, false, false, false]) zH rfl zK rfl zK ?_
  refine W_callq (.cons rfl (.cons rfl .nil)) Tryz.call69 rfl (dfind_q (id := z) zO (hR.up zH)) ?_
  obtain ⟨i, p, e0, e1, hp, ep, ef⟩ := (fi_ways Rs z).resolve_right (fun h => by have := hin; rw [show inR Rs z = none from by unfold inR; rw [h.2.2]; rfl] at this; cases this)
  rw [e1]
  refine W_nil ?_
  refine WS_goal ?_
  refine WS_one 6 (l' := #[true, true, true, true, true, true, true, false, false]) zH rfl zK rfl zK ?_
  refine W_call (.cons rfl (.cons rfl .nil)) Tryz.call118 rfl (LCalls.hsub (dwithout_L (L := Rs) (cap := cap2) zO hc2 (hR.up zH) hp (H := (b2, .cells 60 3 [.int .i64 (n : Int), .slice ad1 Q.length cap1, .slice ad2 Rs.length cap2]) :: (b4, .cells 60 3 [.int .i64 0, .slice none 0 0, .slice none 0 0]) :: H)) zH) ?_
  rintro v H' ⟨X, hO, rfl⟩
  obtain ⟨ad3, cap3, rfl, hc3, _⟩ := hO.shape
  have hdq : Rs.filter (fun p => decide (p.1 ≠ z)) = Rs.eraseIdx i := by rw [← ep]; exact delQ_erase hrn hp
  refine W_nil ?_
  refine WS_goal ?_
  refine WS_take 7 (l' := #[true, true, true, true, true, true, true, true, false]) rfl rfl zK zK zK zK rfl zK (X_fieldAddr rfl fld60_2 zd) rfl ?_
  refine WS_last (l' := #[true, true, true, true, true, true, true, true, true]) zH zK rfl zK ?_
  refine W_store (l' := [.int .i64 (n : Int), .slice ad1 (Q).length cap1, .slice ad3 (Rs.eraseIdx i).length cap3]) rfl rfl ty58 rfl rfl (b := b2) zM rfl rfl zU ?_
  refine W_nil ?_
  refine WC_goal ?_
  refine WC_done (.nil _) zK ?_
  refine W_sr ?_
  refine W_loadB (vs := [.int .i64 (n : Int), .slice ad1 (Q).length cap1, .slice ad3 (Rs.eraseIdx i).length cap3]) rfl ty60 rfl (b := b2) zM rfl rfl rfl ?_
  refine W_move rfl rfl ?_
  refine W_storeA (l' := [.int .i64 (n : Int), .slice ad1 (Q).length cap1, .slice ad3 (Rs.eraseIdx i).length cap3]) rfl rfl ty60 rfl rfl (b := b4) zM (by exact Nat.le_refl 3) rfl zU ?_
  refine W_assign rfl rfl ?_
  refine W_assign rfl rfl ?_
  refine W_nil ?_
  refine W_ret3G (H2 := X ++ H) Tryz.results99 (.nil _) (.own rfl ty60 rfl zM rfl) (.tmp rfl) (.tmp rfl) zH ?_
  unfold endQ
  rw [hof]
  dsimp only
  rw [hdq]
  exact ⟨_, X, rfl, ⟨ad1, cap1, ad3, cap3, rfl, hc1, hc3, hQ0.up (.dropS (.refl _)), OwnS.holds hO (fun p hp => List.mem_append_left _ hp)⟩, rfl⟩
theorem fiZ_some {Q : List (Int × Int)} {z : Int} (h : 0 ≤ fiZ Q z) : (whQ Q z).isSome = true := by
 rcases fi_ways Q z with ⟨_, p, _, _, _, _, ef⟩ | ⟨_, e1, _⟩
 ·exact whQ_fi ef
 ·omega
theorem fiZ_none {Q : List (Int × Int)} {z : Int} (h : ¬ 0 ≤ fiZ Q z) : whQ Q z = none := by
 rcases fi_ways Q z with ⟨_, p, _, e1, _, _, ef⟩ | ⟨_, _, ef⟩
 ·omega
 ·exact whQ_nf ef
theorem addQ_cons (c z : Int) (l : List Int) (Q : List (Int × Int)) : addQ c (z :: l) Q = if ¬ (0 ≤ z ∧ z < 256) then (Q, 2) else if (whQ Q z).isSome = true then (Q, 5) else addQ c l (Q ++ [(z, c)]) := rfl
structure AdS where
 i : Nat
 Q : List (Int × Int)
 ad : Option Addr
 cap : Nat
 X : Heap
theorem dAdd_no {w0 : World} {H : Heap} {HR : Heap} {n : Nat} {Q Rs : List (Int × Int)} {cs : List Value} (hv : PdV w0 HR n Q Rs cs) (hHR : HSub H HR) (hq : QOk n Q) (hrl : Rs.length ≤ 1000) {cpu : Int} {ids : List Int} {ad : Option Addr} {cap : Nat} (hil : ids.length ≤ 100000) (hrow : Holds w0 H ad (ids.map (Value.int .i64))) (hc : cpu < 0 ∨ (n : Int) ≤ cpu)  : LCalls Tryz.prog w0 97 #[.agg (List.toArray cs), .int .i64 cpu, .slice ad ids.length cap] (H) (fun v H' => ∃ cs1 X, v = .tuple #[.agg (List.toArray cs1), .int .i64 (addsQ n Q cpu ids).2] ∧ PdV w0 (X ++ HR) n ((addsQ n Q cpu ids).1) (Rs) cs1 ∧ H' = X ++ H) := by
 obtain ⟨ad1, cap1, ad2, cap2, rfl, hc1, hc2, hQ0, hR0⟩ := hv
 have hQ := hQ0.up hHR
 have hR := hR0.up hHR
 have hql := Q_len hq
 refine L_enter (l := [.agg (List.toArray [.int .i64 (n : Int), .slice ad1 Q.length cap1, .slice ad2 Rs.length cap2]), .int .i64 cpu, .slice ad ids.length cap]) Tryz.func97 rfl Tryz.ntmps97 rfl rfl ?_
 refine W_sr ?_
 refine W_box (l := [.int .i64 (n : Int), .slice ad1 Q.length cap1, .slice ad2 Rs.length cap2]) rfl rfl rfl (fun b3 => ?_)
 refine W_alloc (l := [.int .i64 0, .slice none 0 0, .slice none 0 0]) ty60 rfl rfl (fun b6 => ?_)
 refine W_assign rfl rfl ?_
 refine W_nil (W_seq (W_sr ?_))
 refine W_move rfl rfl ?_
 refine W_bin rfl rfl b_lss rfl ?_
 skip
 refine W_move rfl rfl ?_
 apply W_or
 iterate 4 exact rfl
 case h1 =>
  intro hg2
  refine W_gyes rfl rfl ?_
  refine W_move rfl rfl ?_
  refine W_gyes rfl rfl ?_
  refine W_fieldAddr rfl fld60_0 zd rfl ?_
  refine W_gyes rfl rfl ?_
  refine W_load (v := .int .i64 (n : Int)) rfl ty3 rfl (Cell.own (b := b3) zM rfl) rfl ?_
  refine W_gyes rfl rfl ?_
  refine W_bin rfl rfl b_geq rfl ?_
  skip
  exact W_met rfl zR
 refine W_nil ?_
 refine W_condT rfl (by simp; omega) ?_
 refine W_sr ?_
 refine W_loadB (vs := [.int .i64 (n : Int), .slice ad1 Q.length cap1, .slice ad2 Rs.length cap2]) rfl ty60 rfl (b := b3) zM rfl rfl rfl ?_
 refine W_storeA (l' := [.int .i64 (n : Int), .slice ad1 Q.length cap1, .slice ad2 Rs.length cap2]) rfl rfl ty60 rfl rfl (b := b6) zM (by exact Nat.le_refl 3) rfl zU ?_
 refine W_assign rfl rfl ?_
 refine W_nil ?_
 refine W_ret2G (H2 := H) Tryz.results97 (.nil _) (.own rfl ty60 rfl zM rfl) (.tmp rfl) zH ?_
 have e : addsQ n Q cpu ids = (Q, 2) := if_pos hc
 rw [e]
 exact ⟨_, [], rfl, ⟨ad1, cap1, ad2, cap2, rfl, hc1, hc2, hQ0, hR0⟩, rfl⟩
theorem dAdd_at {w0 : World} {H : Heap} {HR : Heap} {n : Nat} {Q Rs : List (Int × Int)} {cs : List Value} (hv : PdV w0 HR n Q Rs cs) (hHR : HSub H HR) (hq : QOk n Q) (hrl : Rs.length ≤ 1000) {k : Nat} {ids : List Int} {ad : Option Addr} {cap : Nat} (hil : ids.length ≤ 100000) (hrow : Holds w0 H ad (ids.map (Value.int .i64))) (hk : k < n) (hn : n ≤ 64)  : LCalls Tryz.prog w0 97 #[.agg (List.toArray cs), .int .i64 (k : Int), .slice ad ids.length cap] (H) (fun v H' => ∃ cs1 X, v = .tuple #[.agg (List.toArray cs1), .int .i64 (addsQ n Q (k : Int) ids).2] ∧ PdV w0 (X ++ HR) n ((addsQ n Q (k : Int) ids).1) (Rs) cs1 ∧ H' = X ++ H) := by
 obtain ⟨ad1, cap1, ad2, cap2, rfl, hc1, hc2, hQ0, hR0⟩ := hv
 have hQ := hQ0.up hHR
 have hR := hR0.up hHR
 have hql := Q_len hq
 refine L_enter (l := [.agg (List.toArray [.int .i64 (n : Int), .slice ad1 Q.length cap1, .slice ad2 Rs.length cap2]), .int .i64 (k : Int), .slice ad ids.length cap]) Tryz.func97 rfl Tryz.ntmps97 rfl rfl ?_
 refine W_sr ?_
 refine W_box (l := [.int .i64 (n : Int), .slice ad1 Q.length cap1, .slice ad2 Rs.length cap2]) rfl rfl rfl (fun b3 => ?_)
 refine W_alloc (l := [.int .i64 0, .slice none 0 0, .slice none 0 0]) ty60 rfl rfl (fun b6 => ?_)
 refine W_assign rfl rfl ?_
 refine W_nil (W_seq (W_sr ?_))
 refine W_move rfl rfl ?_
 refine W_bin rfl rfl b_lss rfl ?_
 first | rw [decide_eq_true (by omega)] | rw [decide_eq_false (by omega)]
 refine W_move rfl rfl ?_
 refine W_gyes rfl rfl ?_
 refine W_move rfl rfl ?_
 refine W_gyes rfl rfl ?_
 refine W_fieldAddr rfl fld60_0 zd rfl ?_
 refine W_gyes rfl rfl ?_
 refine W_load (v := .int .i64 (n : Int)) rfl ty3 rfl (Cell.own (b := b3) zM rfl) rfl ?_
 refine W_gyes rfl rfl ?_
 refine W_bin rfl rfl b_geq rfl ?_
 first | rw [decide_eq_true (by omega)] | rw [decide_eq_false (by omega)]
 first | refine W_pickt rfl rfl rfl ?_ | refine W_pickf rfl rfl rfl ?_
 refine W_nil ?_
 refine W_condF rfl rfl ?_
 refine W_skip (W_seq (W_sr ?_))
 refine W_assign rfl rfl ?_
 refine W_nil (W_block ?_)
 refine W_loopC (X := AdS) [(1, _), (2, _), (3, _), (6, _)] (fun (x : AdS) => [(8, .int .i64 (x.i : Int))]) (fun _ => _) (fun (x : AdS) => (b3, .cells 60 3 [.int .i64 (n : Int), .slice x.ad (x.Q).length x.cap, .slice ad2 (Rs).length cap2]) :: (b6, .cells 60 3 [.int .i64 0, .slice none 0 0, .slice none 0 0]) :: (x.X ++ H)) (fun (x : AdS) => x.i ≤ ids.length ∧ x.Q.length ≤ Q.length + x.i ∧ x.Q.length ≤ x.cap ∧ Holds w0 (x.X ++ HR) x.ad (thRow x.Q) ∧ addQ (k : Int) ids Q = addQ (k : Int) (ids.drop x.i) x.Q) (fun (x : AdS) => ids.length - x.i) ⟨0, Q, ad1, cap1, []⟩ ⟨Nat.zero_le _, Nat.le_refl _, hc1, hQ0, rfl⟩ (sub_cons rfl (sub_cons rfl (sub_cons rfl (sub_cons rfl (sub_nil _))))) (sub_cons rfl (sub_nil _)) rfl zH ?_
 rintro ⟨i, Qi, adi, capi, Xi⟩ ⟨hi, hqi, hci, hQi0, hA⟩
 dsimp only at hi hqi hci hQi0 hA ⊢
 have hQi := hQi0.up (H' := Xi ++ H) (.app (.here _) hHR)
 simp only [List.cons_append, List.nil_append]
 refine W_seq (W_sr ?_)
 refine W_move rfl rfl ?_
 refine W_move rfl rfl ?_
 refine W_len rfl ty24 rfl rfl ?_
 refine W_bin rfl rfl b_lss rfl ?_
 refine W_nil ?_
 refine W_condPS (p := (i : Int) < (ids.length : Int)) rfl (by simp) (fun q0 => ?_) (fun q0 => ?_)
 ·skip
  refine W_skip (W_seq ?_)
  refine W_block (W_seq (W_sr ?_))
  obtain ⟨z, hz⟩ : ∃ z, ids[i]? = some z := ⟨_, List.getElem?_eq_getElem zO⟩
  obtain ⟨q0, p0, rfl, hcz⟩ := hrow.at (i := i) (v := .int .i64 z) (by rw [List.getElem?_map, hz]; rfl)
  have hdr := hA
  rw [List.drop_eq_getElem_cons (by omega), (List.getElem?_eq_some_iff.1 hz).2] at hdr
  rw [addQ_cons] at hdr
  refine W_move rfl rfl ?_
  refine W_move rfl rfl ?_
  refine W_indexAddr (j := i) rfl rfl ty24 ty3 (by first | rfl | omega) (by first | decide | omega | simp) rfl rfl ?_
  refine W_load (v := .int .i64 z) rfl ty3 rfl (by rw [Nat.mul_one]; exact hcz.up zH) rfl ?_
  refine W_bin rfl rfl b_lss rfl ?_
  refine W_move rfl rfl ?_
  apply W_or
  iterate 4 exact rfl
  case h1 =>
   intro hg5
   refine W_gyes rfl rfl ?_
   refine W_move rfl rfl ?_
   refine W_gyes rfl rfl ?_
   refine W_move rfl rfl ?_
   refine W_gyes rfl rfl ?_
   refine W_indexAddr (j := i) rfl rfl ty24 ty3 (by first | rfl | omega) (by first | decide | omega | simp) rfl rfl ?_
   refine W_gyes rfl rfl ?_
   refine W_load (v := .int .i64 z) rfl ty3 rfl (by rw [Nat.mul_one]; exact hcz.up zH) rfl ?_
   refine W_gyes rfl rfl ?_
   refine W_bin rfl rfl b_gtr rfl ?_
   exact W_met rfl zR
  refine W_nil ?_
  refine W_condPS (p := ¬ (0 ≤ z ∧ z < 256)) rfl (by simp; omega) (fun q1 => ?_) (fun q1 => ?_)
  ·skip
   refine W_sr ?_
   refine W_loadB (vs := [.int .i64 (n : Int), .slice adi (Qi).length capi, .slice ad2 (Rs).length cap2]) rfl ty60 rfl (b := b3) zM rfl rfl rfl ?_
   refine W_storeA (l' := [.int .i64 (n : Int), .slice adi (Qi).length capi, .slice ad2 (Rs).length cap2]) rfl rfl ty60 rfl rfl (b := b6) zM (by exact Nat.le_refl 3) rfl zU ?_
   refine W_assign rfl rfl ?_
   refine W_nil ?_
   refine W_ret2G (H2 := Xi ++ H) Tryz.results97 (.nil _) (.own rfl ty60 rfl zM rfl) (.tmp rfl) zH ?_
   have e : addsQ n Q (k : Int) ids = addQ (k : Int) ids Q := if_neg zO
   rw [e, hdr, if_pos (by omega)]
   exact ⟨_, Xi, rfl, ⟨adi, capi, ad2, cap2, rfl, hci, hc2, hQi0, hR0.up (.dropS (.refl _))⟩, rfl⟩
  ·skip
   refine W_skip (W_seq ?_)
   refine W_quietsr zk zK ?_
   refine WQ_x (X_fieldAddr rfl fld60_1 zd) rfl ?_
   refine WQ_x (X_load (v := .slice adi (Qi).length capi) rfl ty58 rfl (Cell.own (b := b3) zM rfl)) rfl ?_
   refine WQ_x (X_move rfl) rfl ?_
   refine WQ_x (X_move rfl) rfl ?_
   refine WQ_x (X_indexAddr (j := i) rfl rfl ty24 ty3 (by first | rfl | omega) (by first | decide | omega | simp) rfl) rfl ?_
   refine WQ_x (X_load (v := .int .i64 z) rfl ty3 rfl (by rw [Nat.mul_one]; exact hcz.up zH)) rfl ?_
   refine WQ_callq (.cons rfl (.cons rfl .nil)) Tryz.call69 rfl (dfind_q (id := z) zO (hQi.up zH)) ?_
   refine WQ_x (X_bin rfl rfl b_geq) rfl ?_
   refine WQ_nil ?_
   refine W_condPS (p := 0 ≤ fiZ Qi z) rfl (by simp) (fun q2 => ?_) (fun q2 => ?_)
   ·skip
    refine W_sr ?_
    refine W_loadB (vs := [.int .i64 (n : Int), .slice adi (Qi).length capi, .slice ad2 (Rs).length cap2]) rfl ty60 rfl (b := b3) zM rfl rfl rfl ?_
    refine W_storeA (l' := [.int .i64 (n : Int), .slice adi (Qi).length capi, .slice ad2 (Rs).length cap2]) rfl rfl ty60 rfl rfl (b := b6) zM (by exact Nat.le_refl 3) rfl zU ?_
    refine W_assign rfl rfl ?_
    refine W_nil ?_
    refine W_ret2G (H2 := Xi ++ H) Tryz.results97 (.nil _) (.own rfl ty60 rfl zM rfl) (.tmp rfl) zH ?_
    have e : addsQ n Q (k : Int) ids = addQ (k : Int) ids Q := if_neg zO
    rw [e, hdr, if_neg (by omega), if_pos (fiZ_some q2)]
    exact ⟨_, Xi, rfl, ⟨adi, capi, ad2, cap2, rfl, hci, hc2, hQi0, hR0.up (.dropS (.refl _))⟩, rfl⟩
   ·skip
    refine W_skip ?_
    refine W_cutX (X := (Option Addr × Nat × Heap)) (fun _ => [(1, .int .i64 (k : Int)), (2, .slice (some ⟨q0, p0, none⟩) ids.length cap), (3, .pointer (some ⟨b3, 0, none⟩)), (6, .pointer (some ⟨b6, 0, none⟩)), (8, .int .i64 (i : Int))]) (fun x => (b3, .cells 60 3 [.int .i64 (n : Int), .slice x.1 (Qi ++ [(z, (k : Int))]).length x.2.1, .slice ad2 (Rs).length cap2]) :: (b6, .cells 60 3 [.int .i64 0, .slice none 0 0, .slice none 0 0]) :: (x.2.2 ++ (Xi ++ H))) (fun x => (Qi ++ [(z, (k : Int))]).length ≤ x.2.1 ∧ OwnS 121 2 (.slice x.1 (Qi ++ [(z, (k : Int))]).length x.2.1) (Qi ++ [(z, (k : Int))]).length (thRow (Qi ++ [(z, (k : Int))])) x.2.2) ?_ ?_
    ·skip
     refine W_anyS ((b3, .cells 60 3 [.int .i64 (n : Int), .slice adi (Qi).length capi, .slice ad2 (Rs).length cap2]) :: H) 13 zk ?_
     refine WS_take 1 (l' := #[false, true, false, false, false, false, false, false, false, false, false, false, false, false]) rfl rfl zK zK zK zK rfl zK (X_fieldAddr rfl fld60_1 zd) rfl ?_
     refine WS_take 2 (l' := #[false, true, true, false, false, false, false, false, false, false, false, false, false, false]) rfl rfl zK zK zK zK rfl zK (X_load (v := .slice adi (Qi).length capi) rfl ty58 rfl (Cell.own (b := b3) zM rfl)) rfl ?_
     refine WS_take 4 (l' := #[false, true, true, false, true, false, false, false, false, false, false, false, false, false]) rfl rfl zK zK zK zK rfl zK (X_move rfl) rfl ?_
     refine WS_take 5 (l' := #[false, true, true, false, true, true, false, false, false, false, false, false, false, false]) rfl rfl zK zK zK zK rfl zK (X_move rfl) rfl ?_
     refine WS_take 6 (l' := #[false, true, true, false, true, true, true, false, false, false, false, false, false, false]) rfl rfl (by decide +kernel) (by decide +kernel) (by decide +kernel) (by decide +kernel) rfl (by decide +kernel) (X_indexAddr (j := i) rfl rfl ty24 ty3 (by first | rfl | omega) (by first | decide | omega | simp) rfl) rfl ?_
     refine WS_take 7 (l' := #[false, true, true, false, true, true, true, true, false, false, false, false, false, false]) rfl rfl (by decide +kernel) (by decide +kernel) (by decide +kernel) (by decide +kernel) rfl (by decide +kernel) (X_load (v := .int .i64 z) rfl ty3 rfl (by rw [Nat.mul_one]; exact hcz.up zH)) rfl ?_
     refine WS_take 8 (l' := #[false, true, true, false, true, true, true, true, true, false, false, false, false, false]) rfl rfl zK zK zK zK rfl zK (X_move rfl) rfl ?_
     refine WS_take 9 (l' := #[false, true, true, false, true, true, true, true, true, true, false, false, false, false]) rfl rfl zK zK zK zK rfl zK (X_build (l := thC (z, (k : Int))) ty121 pl121 (.cons rfl rfl rfl rfl rfl (.cons rfl rfl rfl rfl rfl .nil)) rfl rfl) rfl ?_
     refine WS_two 0 10 (l' := #[true, true, true, false, true, true, true, true, true, true, false, false, false, false]) (l'' := #[false, true, true, false, true, true, true, true, true, true, true, false, false, false]) zH rfl rfl zK rfl rfl zK zK ?_ ?_
     ·skip
      refine W_buildSlice (l := []) ty58 ty121 .nil rfl rfl rfl rfl rfl rfl rfl (fun b46 => ?_)
      refine W_nil ?_
      refine WS_goal ?_
      refine WS_two 3 10 (l' := #[true, true, true, true, true, true, true, true, true, true, false, false, false, false]) (l'' := #[true, true, true, false, true, true, true, true, true, true, true, false, false, false]) zH rfl rfl zK rfl rfl zK zK ?_ ?_
      ·skip
       refine W_append (news := thRow Qi) (m := Qi.length) (HB := [(b46, .cells 121 0 [])]) (H0 := (b3, .cells 60 3 [.int .i64 (n : Int), .slice adi (Qi).length capi, .slice ad2 (Rs).length cap2]) :: (b6, .cells 60 3 [.int .i64 0, .slice none 0 0, .slice none 0 0]) :: (Xi ++ H)) rfl rfl ty58 ty121 rfl (by decide) (OwnS.own (n := 0) (cap := 0) (xs := []) rfl (Nat.le_refl _) (Nat.zero_le _)) (thRow_len _) (hQi.up zH) (thRow_one _) (by simp only [maxLen]; omega) (by omega) zH rfl (fun v1 X1 hO1 => ?_)
       refine W_nil ?_
       refine WS_goal ?_
       refine WS_one 10 (l' := #[true, true, true, true, true, true, true, true, true, true, true, false, false, false]) zH rfl zK rfl zK ?_
       refine W_buildSlice (l := thC (z, (k : Int))) ty58 ty121 (.cons rfl rfl rfl rfl rfl .nil) rfl rfl rfl rfl rfl rfl rfl (fun b56 => ?_)
       refine W_nil ?_
       refine WS_goal ?_
       refine WS_one 11 (l' := #[true, true, true, true, true, true, true, true, true, true, true, true, false, false]) zH rfl zK rfl zK ?_
       refine W_append (news := thC (z, (k : Int))) (m := 1) (HB := X1) (H0 := (b56, .cells 121 2 (thC (z, (k : Int)))) :: (b3, .cells 60 3 [.int .i64 (n : Int), .slice adi (Qi).length capi, .slice ad2 (Rs).length cap2]) :: (b6, .cells 60 3 [.int .i64 0, .slice none 0 0, .slice none 0 0]) :: (Xi ++ H)) rfl rfl ty58 ty121 rfl (by decide) hO1 rfl (Holds.own (b := b56) zM) rfl (by simp only [maxLen]; omega) (by omega) zH rfl (fun v2 X2 hO2 => ?_)
       have hO3 : OwnS 121 2 v2 (Qi ++ [(z, (k : Int))]).length (thRow (Qi ++ [(z, (k : Int))])) X2 := by rw [thRow_app, List.length_append]; simp only [Nat.zero_add, List.nil_append] at hO2; exact hO2
       obtain ⟨ad4, cap4, rfl, hc4, _⟩ := hO3.shape
       refine W_nil ?_
       refine WS_goal ?_
       refine WS_take 12 (l' := #[true, true, true, true, true, true, true, true, true, true, true, true, true, false]) rfl rfl zK zK zK zK rfl zK (X_fieldAddr rfl fld60_1 zd) rfl ?_
       refine WS_last (l' := #[true, true, true, true, true, true, true, true, true, true, true, true, true, true]) zH zK rfl zK ?_
       refine W_store (l' := [.int .i64 (n : Int), .slice ad4 (Qi ++ [(z, (k : Int))]).length cap4, .slice ad2 (Rs).length cap2]) rfl rfl ty58 rfl rfl (b := b3) zM rfl rfl zU ?_
       refine W_nil ?_
       refine WC_goal ?_
       refine WC_done (.nil _) zK ?_
       refine W_joinX (ad4, cap4, X2) ⟨hc4, hO3⟩ (sub_cons rfl (sub_cons rfl (sub_cons rfl (sub_cons rfl (sub_cons rfl (sub_nil _)))))) zH
      ·skip
       refine W_buildSlice (l := thC (z, (k : Int))) ty58 ty121 (.cons rfl rfl rfl rfl rfl .nil) rfl rfl rfl rfl rfl rfl rfl (fun b56 => ?_)
       refine W_nil ?_
       refine WS_goal ?_
       refine WS_one 3 (l' := #[true, true, true, true, true, true, true, true, true, true, true, false, false, false]) zH rfl zK rfl zK ?_
       refine W_append (news := thRow Qi) (m := Qi.length) (HB := [(b46, .cells 121 0 [])]) (H0 := (b56, .cells 121 2 (thC (z, (k : Int)))) :: (b3, .cells 60 3 [.int .i64 (n : Int), .slice adi (Qi).length capi, .slice ad2 (Rs).length cap2]) :: (b6, .cells 60 3 [.int .i64 0, .slice none 0 0, .slice none 0 0]) :: (Xi ++ H)) rfl rfl ty58 ty121 rfl (by decide) (OwnS.own (n := 0) (cap := 0) (xs := []) rfl (Nat.le_refl _) (Nat.zero_le _)) (thRow_len _) (hQi.up zH) (thRow_one _) (by simp only [maxLen]; omega) (by omega) zH rfl (fun v1 X1 hO1 => ?_)
       refine W_nil ?_
       refine WS_goal ?_
       refine WS_one 11 (l' := #[true, true, true, true, true, true, true, true, true, true, true, true, false, false]) zH rfl zK rfl zK ?_
       refine W_append (news := thC (z, (k : Int))) (m := 1) (HB := X1) (H0 := (b56, .cells 121 2 (thC (z, (k : Int)))) :: (b3, .cells 60 3 [.int .i64 (n : Int), .slice adi (Qi).length capi, .slice ad2 (Rs).length cap2]) :: (b6, .cells 60 3 [.int .i64 0, .slice none 0 0, .slice none 0 0]) :: (Xi ++ H)) rfl rfl ty58 ty121 rfl (by decide) hO1 rfl (Holds.own (b := b56) zM) rfl (by simp only [maxLen]; omega) (by omega) zH rfl (fun v2 X2 hO2 => ?_)
       have hO3 : OwnS 121 2 v2 (Qi ++ [(z, (k : Int))]).length (thRow (Qi ++ [(z, (k : Int))])) X2 := by rw [thRow_app, List.length_append]; simp only [Nat.zero_add, List.nil_append] at hO2; exact hO2
       obtain ⟨ad4, cap4, rfl, hc4, _⟩ := hO3.shape
       refine W_nil ?_
       refine WS_goal ?_
       refine WS_take 12 (l' := #[true, true, true, true, true, true, true, true, true, true, true, true, true, false]) rfl rfl zK zK zK zK rfl zK (X_fieldAddr rfl fld60_1 zd) rfl ?_
       refine WS_last (l' := #[true, true, true, true, true, true, true, true, true, true, true, true, true, true]) zH zK rfl zK ?_
       refine W_store (l' := [.int .i64 (n : Int), .slice ad4 (Qi ++ [(z, (k : Int))]).length cap4, .slice ad2 (Rs).length cap2]) rfl rfl ty58 rfl rfl (b := b3) zM rfl rfl zU ?_
       refine W_nil ?_
       refine WC_goal ?_
       refine WC_done (.nil _) zK ?_
       refine W_joinX (ad4, cap4, X2) ⟨hc4, hO3⟩ (sub_cons rfl (sub_cons rfl (sub_cons rfl (sub_cons rfl (sub_cons rfl (sub_nil _)))))) zH
     ·skip
      refine W_buildSlice (l := thC (z, (k : Int))) ty58 ty121 (.cons rfl rfl rfl rfl rfl .nil) rfl rfl rfl rfl rfl rfl rfl (fun b56 => ?_)
      refine W_nil ?_
      refine WS_goal ?_
      refine WS_one 0 (l' := #[true, true, true, false, true, true, true, true, true, true, true, false, false, false]) zH rfl zK rfl zK ?_
      refine W_buildSlice (l := []) ty58 ty121 .nil rfl rfl rfl rfl rfl rfl rfl (fun b46 => ?_)
      refine W_nil ?_
      refine WS_goal ?_
      refine WS_one 3 (l' := #[true, true, true, true, true, true, true, true, true, true, true, false, false, false]) zH rfl zK rfl zK ?_
      refine W_append (news := thRow Qi) (m := Qi.length) (HB := [(b46, .cells 121 0 [])]) (H0 := (b56, .cells 121 2 (thC (z, (k : Int)))) :: (b3, .cells 60 3 [.int .i64 (n : Int), .slice adi (Qi).length capi, .slice ad2 (Rs).length cap2]) :: (b6, .cells 60 3 [.int .i64 0, .slice none 0 0, .slice none 0 0]) :: (Xi ++ H)) rfl rfl ty58 ty121 rfl (by decide) (OwnS.own (n := 0) (cap := 0) (xs := []) rfl (Nat.le_refl _) (Nat.zero_le _)) (thRow_len _) (hQi.up zH) (thRow_one _) (by simp only [maxLen]; omega) (by omega) zH rfl (fun v1 X1 hO1 => ?_)
      refine W_nil ?_
      refine WS_goal ?_
      refine WS_one 11 (l' := #[true, true, true, true, true, true, true, true, true, true, true, true, false, false]) zH rfl zK rfl zK ?_
      refine W_append (news := thC (z, (k : Int))) (m := 1) (HB := X1) (H0 := (b56, .cells 121 2 (thC (z, (k : Int)))) :: (b3, .cells 60 3 [.int .i64 (n : Int), .slice adi (Qi).length capi, .slice ad2 (Rs).length cap2]) :: (b6, .cells 60 3 [.int .i64 0, .slice none 0 0, .slice none 0 0]) :: (Xi ++ H)) rfl rfl ty58 ty121 rfl (by decide) hO1 rfl (Holds.own (b := b56) zM) rfl (by simp only [maxLen]; omega) (by omega) zH rfl (fun v2 X2 hO2 => ?_)
      have hO3 : OwnS 121 2 v2 (Qi ++ [(z, (k : Int))]).length (thRow (Qi ++ [(z, (k : Int))])) X2 := by rw [thRow_app, List.length_append]; simp only [Nat.zero_add, List.nil_append] at hO2; exact hO2
      obtain ⟨ad4, cap4, rfl, hc4, _⟩ := hO3.shape
      refine W_nil ?_
      refine WS_goal ?_
      refine WS_take 12 (l' := #[true, true, true, true, true, true, true, true, true, true, true, true, true, false]) rfl rfl zK zK zK zK rfl zK (X_fieldAddr rfl fld60_1 zd) rfl ?_
      refine WS_last (l' := #[true, true, true, true, true, true, true, true, true, true, true, true, true, true]) zH zK rfl zK ?_
      refine W_store (l' := [.int .i64 (n : Int), .slice ad4 (Qi ++ [(z, (k : Int))]).length cap4, .slice ad2 (Rs).length cap2]) rfl rfl ty58 rfl rfl (b := b3) zM rfl rfl zU ?_
      refine W_nil ?_
      refine WC_goal ?_
      refine WC_done (.nil _) zK ?_
      refine W_joinX (ad4, cap4, X2) ⟨hc4, hO3⟩ (sub_cons rfl (sub_cons rfl (sub_cons rfl (sub_cons rfl (sub_cons rfl (sub_nil _)))))) zH
    rintro ⟨ad5, cap5, X5⟩ ⟨hc5, hO5⟩; have hwq : whQ Qi z = none := fiZ_none q2
    dsimp only at hc5 hO5 ⊢
    refine W_blk ?_
    refine W_region ?_
    refine W_move rfl rfl ?_
    refine W_bin rfl rfl (b_add (m := ((i + 1 : Nat) : Int)) ((i64w zO).trans zO)) rfl ?_
    refine W_assign rfl rfl ?_
    refine W_nil ?_
    refine W_again ⟨i + 1, Qi ++ [(z, (k : Int))], ad5, cap5, X5 ++ Xi⟩ ⟨by show i + 1 ≤ _; omega, by show (Qi ++ [_]).length ≤ Q.length + (i + 1); rw [List.length_append, List.length_singleton]; omega, hc5, by show Holds w0 ((X5 ++ Xi) ++ HR) ad5 _; rw [List.append_assoc]; exact OwnS.holds hO5 (fun p hp => List.mem_append_left _ hp), by show addQ (k : Int) ids Q = addQ (k : Int) (ids.drop (i + 1)) (Qi ++ [(z, (k : Int))]); rw [hdr, if_neg (by omega), if_neg (by rw [hwq]; decide)]⟩ (by show ids.length - (i + 1) < ids.length - i; omega) (sub_cons rfl (sub_cons rfl (sub_cons rfl (sub_cons rfl (sub_cons rfl (sub_nil _)))))) rfl (by show HSub _ ((b3, .cells 60 3 [.int .i64 (n : Int), .slice ad5 (Qi ++ [(z, (k : Int))]).length cap5, .slice ad2 (Rs).length cap2]) :: (b6, .cells 60 3 [.int .i64 0, .slice none 0 0, .slice none 0 0]) :: ((X5 ++ Xi) ++ H)); rw [List.append_assoc]; first | exact hsubI | (repeat (first | with_reducible exact HSub.refl _ | refine HSub.cons zT ?_ | refine HSub.app zS ?_ | exact HSub.nil _ | exact HSub.refl _ | refine HSub.drop ?_ | refine HSub.dropS ?_)))
 ·skip
  refine W_exit rfl ?_
  refine W_sr ?_
  refine W_loadB (vs := [.int .i64 (n : Int), .slice adi (Qi).length capi, .slice ad2 (Rs).length cap2]) rfl ty60 rfl (b := b3) zM rfl rfl rfl ?_
  refine W_storeA (l' := [.int .i64 (n : Int), .slice adi (Qi).length capi, .slice ad2 (Rs).length cap2]) rfl rfl ty60 rfl rfl (b := b6) zM (by exact Nat.le_refl 3) rfl zU ?_
  refine W_assign rfl rfl ?_
  refine W_nil ?_
  refine W_ret2G (H2 := Xi ++ H) Tryz.results97 (.nil _) (.own rfl ty60 rfl zM rfl) (.tmp rfl) zH ?_
  have e : addsQ n Q (k : Int) ids = addQ (k : Int) ids Q := if_neg zO
  rw [e, hA, show ids.drop i = [] from List.drop_eq_nil_of_le (by omega)]
  exact ⟨_, Xi, rfl, ⟨adi, capi, ad2, cap2, rfl, hci, hc2, hQi0, hR0.up (.dropS (.refl _))⟩, rfl⟩
theorem dAdd_L {w0 : World} {H : Heap} {HR : Heap} {n : Nat} {Q Rs : List (Int × Int)} {cs : List Value} (hv : PdV w0 HR n Q Rs cs) (hHR : HSub H HR) (hq : QOk n Q) (hrl : Rs.length ≤ 1000) {cpu : Int} {ids : List Int} {ad : Option Addr} {cap : Nat} (hil : ids.length ≤ 100000) (hrow : Holds w0 H ad (ids.map (Value.int .i64))) (hn : n ≤ 64) : LCalls Tryz.prog w0 97 #[.agg (List.toArray cs), .int .i64 cpu, .slice ad ids.length cap] H (fun v H' => ∃ cs1 X, v = .tuple #[.agg (List.toArray cs1), .int .i64 (addsQ n Q cpu ids).2] ∧ PdV w0 (X ++ HR) n ((addsQ n Q cpu ids).1) (Rs) cs1 ∧ H' = X ++ H) := by
 by_cases h : cpu < 0 ∨ (n : Int) ≤ cpu
 ·exact dAdd_no hv hHR hq hrl hil hrow h
 ·obtain ⟨k, rfl⟩ : ∃ k : Nat, cpu = (k : Int) := ⟨cpu.toNat, by omega⟩
  exact dAdd_at hv hHR hq hrl hil hrow zO hn
theorem dBegin_no {w0 : World} {H : Heap} {HR : Heap} {n : Nat} {Q Rs : List (Int × Int)} {cs : List Value} (hv : PdV w0 HR n Q Rs cs) (hHR : HSub H HR) (hq : QOk n Q) (hrl : Rs.length ≤ 1000) {cpu c : Int} (hc : (cpu < 0 ∨ (n : Int) ≤ cpu) ∨ c < 0 ∨ 32 ≤ c)  : LCalls Tryz.prog w0 98 #[.agg (List.toArray cs), .int .i64 cpu, .int .i64 c] (H) (fun v H' => ∃ cs1 X, v = .tuple #[.agg (List.toArray cs1), .int .i64 (begQ n Q Rs cpu c).2.2.1, .int .i64 (begQ n Q Rs cpu c).2.2.2] ∧ PdV w0 (X ++ HR) n ((begQ n Q Rs cpu c).1) ((begQ n Q Rs cpu c).2.1) cs1 ∧ H' = X ++ H) := by
 obtain ⟨ad1, cap1, ad2, cap2, rfl, hc1, hc2, hQ0, hR0⟩ := hv
 have hQ := hQ0.up hHR
 have hR := hR0.up hHR
 have hql := Q_len hq
 refine L_enter (l := [.agg (List.toArray [.int .i64 (n : Int), .slice ad1 Q.length cap1, .slice ad2 Rs.length cap2]), .int .i64 cpu, .int .i64 c]) Tryz.func98 rfl Tryz.ntmps98 rfl rfl ?_
 refine W_sr ?_
 refine W_box (l := [.int .i64 (n : Int), .slice ad1 Q.length cap1, .slice ad2 Rs.length cap2]) rfl rfl rfl (fun b3 => ?_)
 refine W_alloc (l := [.int .i64 0, .slice none 0 0, .slice none 0 0]) ty60 rfl rfl (fun b6 => ?_)
 refine W_assign rfl rfl ?_
 refine W_assign rfl rfl ?_
 refine W_nil (W_seq (W_sr ?_))
 refine W_move rfl rfl ?_
 refine W_bin rfl rfl b_lss rfl ?_
 refine W_move rfl rfl ?_
 apply W_or
 iterate 4 exact rfl
 case h1 =>
  intro hg2
  refine W_gyes rfl rfl ?_
  refine W_move rfl rfl ?_
  refine W_gyes rfl rfl ?_
  refine W_fieldAddr rfl fld60_0 zd rfl ?_
  refine W_gyes rfl rfl ?_
  refine W_load (v := .int .i64 (n : Int)) rfl ty3 rfl (Cell.own (b := b3) zM rfl) rfl ?_
  refine W_gyes rfl rfl ?_
  refine W_bin rfl rfl b_geq rfl ?_
  exact W_met rfl zR
 refine W_move rfl rfl ?_
 apply W_or
 iterate 4 exact rfl
 case h1 =>
  intro hg8
  refine W_gyes rfl rfl ?_
  refine W_move rfl rfl ?_
  refine W_gyes rfl rfl ?_
  refine W_bin rfl rfl b_lss rfl ?_
  exact W_met rfl zR
 refine W_move rfl rfl ?_
 apply W_or
 iterate 4 exact rfl
 case h1 =>
  intro hg12
  refine W_gyes rfl rfl ?_
  refine W_move rfl rfl ?_
  refine W_gyes rfl rfl ?_
  refine W_bin rfl rfl b_gtr rfl ?_
  exact W_met rfl zR
 refine W_nil ?_
 refine W_condT rfl (by simp; omega) ?_
 refine W_sr ?_
 refine W_loadB (vs := [.int .i64 (n : Int), .slice ad1 Q.length cap1, .slice ad2 Rs.length cap2]) rfl ty60 rfl (b := b3) zM rfl rfl rfl ?_
 refine W_storeA (l' := [.int .i64 (n : Int), .slice ad1 Q.length cap1, .slice ad2 Rs.length cap2]) rfl rfl ty60 rfl rfl (b := b6) zM (by exact Nat.le_refl 3) rfl zU ?_
 refine W_assign rfl rfl ?_
 refine W_assign rfl rfl ?_
 refine W_nil ?_
 refine W_ret3G (H2 := H) Tryz.results98 (.nil _) (.own rfl ty60 rfl zM rfl) (.tmp rfl) (.tmp rfl) zH ?_
 have e : begQ n Q Rs cpu c = (Q, Rs, 0, 2) := if_pos hc
 rw [e]
 exact ⟨_, [], rfl, ⟨ad1, cap1, ad2, cap2, rfl, hc1, hc2, hQ0, hR0⟩, rfl⟩
theorem dBegin_at {w0 : World} {H : Heap} {HR : Heap} {n : Nat} {Q Rs : List (Int × Int)} {cs : List Value} (hv : PdV w0 HR n Q Rs cs) (hHR : HSub H HR) (hq : QOk n Q) (hrl : Rs.length ≤ 1000) {cpu c : Int} (hn : n ≤ 64) (hk : ¬ ((cpu < 0 ∨ (n : Int) ≤ cpu) ∨ c < 0 ∨ 32 ≤ c))  : LCalls Tryz.prog w0 98 #[.agg (List.toArray cs), .int .i64 cpu, .int .i64 c] (H) (fun v H' => ∃ cs1 X, v = .tuple #[.agg (List.toArray cs1), .int .i64 (begQ n Q Rs cpu c).2.2.1, .int .i64 (begQ n Q Rs cpu c).2.2.2] ∧ PdV w0 (X ++ HR) n ((begQ n Q Rs cpu c).1) ((begQ n Q Rs cpu c).2.1) cs1 ∧ H' = X ++ H) := by
 obtain ⟨ad1, cap1, ad2, cap2, rfl, hc1, hc2, hQ0, hR0⟩ := hv
 have hQ := hQ0.up hHR
 have hR := hR0.up hHR
 have hql := Q_len hq
 have hv0 : PdV w0 HR n Q Rs _ := ⟨ad1, cap1, ad2, cap2, rfl, hc1, hc2, hQ0, hR0⟩
 refine L_enter (l := [.agg (List.toArray [.int .i64 (n : Int), .slice ad1 Q.length cap1, .slice ad2 Rs.length cap2]), .int .i64 cpu, .int .i64 c]) Tryz.func98 rfl Tryz.ntmps98 rfl rfl ?_
 refine W_sr ?_
 refine W_box (l := [.int .i64 (n : Int), .slice ad1 Q.length cap1, .slice ad2 Rs.length cap2]) rfl rfl rfl (fun b3 => ?_)
 refine W_alloc (l := [.int .i64 0, .slice none 0 0, .slice none 0 0]) ty60 rfl rfl (fun b6 => ?_)
 refine W_assign rfl rfl ?_
 refine W_assign rfl rfl ?_
 refine W_nil (W_seq (W_sr ?_))
 refine W_move rfl rfl ?_
 refine W_bin rfl rfl b_lss rfl ?_
 refine W_move rfl rfl ?_
 apply W_or
 iterate 4 exact rfl
 case h1 =>
  intro hg2
  refine W_gyes rfl rfl ?_
  refine W_move rfl rfl ?_
  refine W_gyes rfl rfl ?_
  refine W_fieldAddr rfl fld60_0 zd rfl ?_
  refine W_gyes rfl rfl ?_
  refine W_load (v := .int .i64 (n : Int)) rfl ty3 rfl (Cell.own (b := b3) zM rfl) rfl ?_
  refine W_gyes rfl rfl ?_
  refine W_bin rfl rfl b_geq rfl ?_
  exact W_met rfl zR
 refine W_move rfl rfl ?_
 apply W_or
 iterate 4 exact rfl
 case h1 =>
  intro hg8
  refine W_gyes rfl rfl ?_
  refine W_move rfl rfl ?_
  refine W_gyes rfl rfl ?_
  refine W_bin rfl rfl b_lss rfl ?_
  exact W_met rfl zR
 refine W_move rfl rfl ?_
 apply W_or
 iterate 4 exact rfl
 case h1 =>
  intro hg12
  refine W_gyes rfl rfl ?_
  refine W_move rfl rfl ?_
  refine W_gyes rfl rfl ?_
  refine W_bin rfl rfl b_gtr rfl ?_
  exact W_met rfl zR
 refine W_nil ?_
 refine W_condF rfl (by simp; omega) ?_
 refine W_skip (W_sr ?_)
 refine W_loadB (vs := [.int .i64 (n : Int), .slice ad1 Q.length cap1, .slice ad2 Rs.length cap2]) rfl ty60 rfl (b := b3) zM rfl rfl rfl ?_
 refine W_move rfl rfl ?_
 refine W_callq (.cons rfl (.cons rfl .nil)) Tryz.call117 rfl (dOf_q (n := n) (cap1 := cap1) (cap2 := cap2) (Q := Q) (Rs := Rs) (ad1 := ad1) (ad2 := ad2) (c := c) zO zO (hQ.up zH) (hR.up zH)) ?_
 rcases hof : ofR Rs c with _ | y
 ·skip
  rw [show optV none = .tuple #[.int .i64 0, .bool false] from rfl]
  refine W_move rfl rfl ?_
  refine W_extract rfl rfl rfl ?_
  refine W_extract rfl rfl rfl ?_
  refine W_assign rfl rfl ?_
  refine W_assign rfl rfl ?_
  refine W_nil (W_seq (W_sr ?_))
  refine W_move rfl rfl ?_
  refine W_nil ?_
  refine W_condF rfl rfl ?_
  refine W_skip (W_seq (W_sr ?_))
  refine W_loadB (vs := [.int .i64 (n : Int), .slice ad1 Q.length cap1, .slice ad2 Rs.length cap2]) rfl ty60 rfl (b := b3) zM rfl rfl rfl ?_
  refine W_move rfl rfl ?_
  refine W_call (.cons rfl (.cons rfl .nil)) Tryz.call67 rfl (LCalls.hsub (dQueue_L (k := cpu) zO zO (hQ.up zH) (hR.up zH) (H := (b3, .cells 60 3 [.int .i64 (n : Int), .slice ad1 Q.length cap1, .slice ad2 Rs.length cap2]) :: (b6, .cells 60 3 [.int .i64 0, .slice none 0 0, .slice none 0 0]) :: H)) zH) ?_
  rintro v H' ⟨Xq, hO, rfl⟩
  obtain ⟨ad3, cap3, rfl, hc3, _⟩ := hO.shape
  rcases hqk : quOf Q cpu with _ | ⟨z, lz⟩
  ·skip
   refine W_len rfl ty24 rfl rfl ?_
   refine W_bin rfl rfl b_eql rfl ?_
   refine W_nil ?_
   refine W_condT rfl rfl ?_
   refine W_sr ?_
   refine W_loadB (vs := [.int .i64 (n : Int), .slice ad1 Q.length cap1, .slice ad2 Rs.length cap2]) rfl ty60 rfl (b := b3) zM rfl rfl rfl ?_
   refine W_storeA (l' := [.int .i64 (n : Int), .slice ad1 Q.length cap1, .slice ad2 Rs.length cap2]) rfl rfl ty60 rfl rfl (b := b6) zM (by exact Nat.le_refl 3) rfl zU ?_
   refine W_assign rfl rfl ?_
   refine W_assign rfl rfl ?_
   refine W_nil ?_
   refine W_ret3G (H2 := H) Tryz.results98 (.nil _) (.own rfl ty60 rfl zM rfl) (.tmp rfl) (.tmp rfl) zH ?_
   have e0 : begQ n Q Rs cpu c = (Q, Rs, 0, 4) := by
    unfold begQ
    rw [if_neg (by omega), if_neg (by rw [hof]; decide), hqk]
   rw [e0]
   exact ⟨_, [], rfl, ⟨ad1, cap1, ad2, cap2, rfl, hc1, hc2, hQ0, hR0⟩, rfl⟩
  ·skip
   refine W_len rfl ty24 rfl rfl ?_
   refine W_bin rfl rfl b_eql rfl ?_
   rw [decide_eq_false (by simp only [List.length_cons]; omega)]
   refine W_nil ?_
   refine W_condF rfl rfl ?_
   refine W_skip (W_sr ?_)
   refine W_loadB (vs := [.int .i64 (n : Int), .slice ad1 Q.length cap1, .slice ad2 Rs.length cap2]) rfl ty60 rfl (b := b3) zM rfl rfl rfl ?_
   refine W_move rfl rfl ?_
   refine W_call (.cons rfl (.cons rfl .nil)) Tryz.call25 rfl (LCalls.hsub (dReady_L (HR := HR) (cpu := cpu) hv0 ((show HSub _ H from zH).trans hHR) hq hrl (H := (b3, .cells 60 3 [.int .i64 (n : Int), .slice ad1 Q.length cap1, .slice ad2 Rs.length cap2]) :: (b6, .cells 60 3 [.int .i64 0, .slice none 0 0, .slice none 0 0]) :: H)) zH) ?_
   rintro v H' ⟨rfl, rfl⟩
   have hrd : rdyQ Q Rs cpu = (z, (inR Rs z).isNone) := by unfold rdyQ; rw [hqk]
   rw [hrd]
   rcases hir : inR Rs z with _ | cx
   ·skip
    refine W_move rfl rfl ?_
    refine W_extract rfl rfl rfl ?_
    refine W_extract rfl rfl rfl ?_
    refine W_assign rfl rfl ?_
    refine W_assign rfl rfl ?_
    refine W_nil (W_seq (W_sr ?_))
    refine W_move rfl rfl ?_
    refine W_not rfl rfl ?_
    refine W_nil ?_
    refine W_condF rfl rfl ?_
    refine W_skip (W_sr ?_)
    refine W_loadB (vs := [.int .i64 (n : Int), .slice ad1 Q.length cap1, .slice ad2 Rs.length cap2]) rfl ty60 rfl (b := b3) zM rfl rfl rfl ?_
    refine W_move rfl rfl ?_
    refine W_call (.cons rfl (.cons rfl .nil)) Tryz.call113 rfl (LCalls.hsub (dDel_L (HR := HR) (id := z) hv0 ((show HSub _ H from zH).trans hHR) hq hrl (H := (b3, .cells 60 3 [.int .i64 (n : Int), .slice ad1 Q.length cap1, .slice ad2 Rs.length cap2]) :: (b6, .cells 60 3 [.int .i64 0, .slice none 0 0, .slice none 0 0]) :: H)) zH) ?_
    rintro v H' ⟨cs1, X1_, rfl, ⟨ad5, cap5, ad6, cap6, rfl, hc5, hc6, hQ5, hR5⟩, rfl⟩
    refine W_move rfl rfl ?_
    refine W_extract rfl rfl rfl ?_
    refine W_extract rfl rfl rfl ?_
    refine W_storeA (l' := [.int .i64 (n : Int), .slice ad5 (delQ Q z).length cap5, .slice ad6 (Rs).length cap6]) rfl rfl ty60 rfl rfl (b := b3) zM (by exact Nat.le_refl 3) rfl zU ?_
    refine W_nil (W_sr ?_)
    refine W_buildSlice (l := []) ty58 ty121 .nil rfl rfl rfl rfl rfl rfl rfl (fun b59 => ?_)
    refine W_fieldAddr rfl fld60_2 zd rfl ?_
    refine W_load (v := .slice ad6 Rs.length cap6) rfl ty58 rfl (Cell.own (b := b3) zM rfl) rfl ?_
    refine W_append (news := thRow Rs) (m := Rs.length) (HB := [(b59, .cells 121 0 [])]) (H0 := (b3, .cells 60 3 [.int .i64 (n : Int), .slice ad5 (delQ Q z).length cap5, .slice ad6 (Rs).length cap6]) :: (b6, .cells 60 3 [.int .i64 0, .slice none 0 0, .slice none 0 0]) :: (X1_ ++ H)) rfl rfl ty58 ty121 rfl (by decide) (OwnS.own (n := 0) (cap := 0) (xs := []) rfl (Nat.le_refl _) (Nat.zero_le _)) (thRow_len _) ((hR5.up (H' := X1_ ++ H) (.app (.here _) hHR)).up zH) (thRow_one _) (by simp only [maxLen]; omega) (by omega) zH rfl (fun v1 X1 hO1 => ?_)
    refine W_move rfl rfl ?_
    refine W_move rfl rfl ?_
    refine W_build (l := thC (z, c)) ty121 pl121 (.cons rfl rfl rfl rfl rfl (.cons rfl rfl rfl rfl rfl .nil)) rfl rfl rfl ?_
    refine W_buildSlice (l := thC (z, c)) ty58 ty121 (.cons rfl rfl rfl rfl rfl .nil) rfl rfl rfl rfl rfl rfl rfl (fun b66 => ?_)
    refine W_append (news := thC (z, c)) (m := 1) (HB := X1) (H0 := (b3, .cells 60 3 [.int .i64 (n : Int), .slice ad5 (delQ Q z).length cap5, .slice ad6 (Rs).length cap6]) :: (b6, .cells 60 3 [.int .i64 0, .slice none 0 0, .slice none 0 0]) :: (X1_ ++ H)) rfl rfl ty58 ty121 rfl (by decide) hO1 rfl (Holds.own (b := b66) zM) rfl (by simp only [maxLen]; omega) (by omega) zH rfl (fun v2 X2 hO2 => ?_)
    have hO3 : OwnS 121 2 v2 (Rs ++ [(z, c)]).length (thRow (Rs ++ [(z, c)])) X2 := by rw [thRow_app, List.length_append]; simp only [Nat.zero_add, List.nil_append] at hO2; exact hO2
    obtain ⟨ad4, cap4, rfl, hc4, _⟩ := hO3.shape
    refine W_fieldAddr rfl fld60_2 zd rfl ?_
    refine W_store (l' := [.int .i64 (n : Int), .slice ad5 (delQ Q z).length cap5, .slice ad4 (Rs ++ [(z, c)]).length cap4]) rfl rfl ty58 rfl rfl (b := b3) zM rfl rfl zU ?_
    refine W_nil (W_sr ?_)
    refine W_loadB (vs := [.int .i64 (n : Int), .slice ad5 (delQ Q z).length cap5, .slice ad4 (Rs ++ [(z, c)]).length cap4]) rfl ty60 rfl (b := b3) zM rfl rfl rfl ?_
    refine W_move rfl rfl ?_
    refine W_storeA (l' := [.int .i64 (n : Int), .slice ad5 (delQ Q z).length cap5, .slice ad4 (Rs ++ [(z, c)]).length cap4]) rfl rfl ty60 rfl rfl (b := b6) zM (by exact Nat.le_refl 3) rfl zU ?_
    refine W_assign rfl rfl ?_
    refine W_assign rfl rfl ?_
    refine W_nil ?_
    refine W_ret3G (H2 := X2 ++ (X1_ ++ H)) Tryz.results98 (.nil _) (.own rfl ty60 rfl zM rfl) (.tmp rfl) (.tmp rfl) zH ?_
    have e0 : begQ n Q Rs cpu c = (delQ Q z, Rs ++ [(z, c)], z, 0) := by
     unfold begQ
     rw [if_neg (by omega), if_neg (by rw [hof]; decide), hqk]
     dsimp only
     rw [if_neg (by rw [hir]; decide)]
    rw [e0]
    exact ⟨_, X2 ++ X1_, rfl, ⟨ad5, cap5, ad4, cap4, rfl, hc5, hc4, by rw [List.append_assoc]; exact hQ5.up (.dropS (.refl _)), by rw [List.append_assoc]; exact OwnS.holds hO3 (fun p hp => List.mem_append_left _ hp)⟩, by rw [List.append_assoc]⟩
   ·skip
    refine W_move rfl rfl ?_
    refine W_extract rfl rfl rfl ?_
    refine W_extract rfl rfl rfl ?_
    refine W_assign rfl rfl ?_
    refine W_assign rfl rfl ?_
    refine W_nil (W_seq (W_sr ?_))
    refine W_move rfl rfl ?_
    refine W_not rfl rfl ?_
    refine W_nil ?_
    refine W_condT rfl rfl ?_
    refine W_sr ?_
    refine W_loadB (vs := [.int .i64 (n : Int), .slice ad1 Q.length cap1, .slice ad2 Rs.length cap2]) rfl ty60 rfl (b := b3) zM rfl rfl rfl ?_
    refine W_storeA (l' := [.int .i64 (n : Int), .slice ad1 Q.length cap1, .slice ad2 Rs.length cap2]) rfl rfl ty60 rfl rfl (b := b6) zM (by exact Nat.le_refl 3) rfl zU ?_
    refine W_assign rfl rfl ?_
    refine W_assign rfl rfl ?_
    refine W_nil ?_
    refine W_ret3G (H2 := H) Tryz.results98 (.nil _) (.own rfl ty60 rfl zM rfl) (.tmp rfl) (.tmp rfl) zH ?_
    have e0 : begQ n Q Rs cpu c = (Q, Rs, 0, 21) := by
     unfold begQ
     rw [if_neg (by omega), if_neg (by rw [hof]; decide), hqk]
     dsimp only
     rw [if_pos (by rw [hir]; rfl)]
    rw [e0]
    exact ⟨_, [], rfl, ⟨ad1, cap1, ad2, cap2, rfl, hc1, hc2, hQ0, hR0⟩, rfl⟩
 ·skip
  rw [show optV (some y) = .tuple #[.int .i64 y, .bool true] from rfl]
  refine W_move rfl rfl ?_
  refine W_extract rfl rfl rfl ?_
  refine W_extract rfl rfl rfl ?_
  refine W_assign rfl rfl ?_
  refine W_assign rfl rfl ?_
  refine W_nil (W_seq (W_sr ?_))
  refine W_move rfl rfl ?_
  refine W_nil ?_
  refine W_condT rfl rfl ?_
  refine W_sr ?_
  refine W_loadB (vs := [.int .i64 (n : Int), .slice ad1 Q.length cap1, .slice ad2 Rs.length cap2]) rfl ty60 rfl (b := b3) zM rfl rfl rfl ?_
  refine W_storeA (l' := [.int .i64 (n : Int), .slice ad1 Q.length cap1, .slice ad2 Rs.length cap2]) rfl rfl ty60 rfl rfl (b := b6) zM (by exact Nat.le_refl 3) rfl zU ?_
  refine W_assign rfl rfl ?_
  refine W_assign rfl rfl ?_
  refine W_nil ?_
  refine W_ret3G (H2 := H) Tryz.results98 (.nil _) (.own rfl ty60 rfl zM rfl) (.tmp rfl) (.tmp rfl) zH ?_
  have e0 : begQ n Q Rs cpu c = (Q, Rs, 0, 5) := by
   unfold begQ
   rw [if_neg (by omega), if_pos (by rw [hof]; rfl)]
  rw [e0]
  exact ⟨_, [], rfl, ⟨ad1, cap1, ad2, cap2, rfl, hc1, hc2, hQ0, hR0⟩, rfl⟩
theorem dBegin_L {w0 : World} {H : Heap} {HR : Heap} {n : Nat} {Q Rs : List (Int × Int)} {cs : List Value} (hv : PdV w0 HR n Q Rs cs) (hHR : HSub H HR) (hq : QOk n Q) (hrl : Rs.length ≤ 1000) {cpu c : Int} (hn : n ≤ 64) : LCalls Tryz.prog w0 98 #[.agg (List.toArray cs), .int .i64 cpu, .int .i64 c] H (fun v H' => ∃ cs1 X, v = .tuple #[.agg (List.toArray cs1), .int .i64 (begQ n Q Rs cpu c).2.2.1, .int .i64 (begQ n Q Rs cpu c).2.2.2] ∧ PdV w0 (X ++ HR) n ((begQ n Q Rs cpu c).1) ((begQ n Q Rs cpu c).2.1) cs1 ∧ H' = X ++ H) := by
 by_cases h : (cpu < 0 ∨ (n : Int) ≤ cpu) ∨ c < 0 ∨ 32 ≤ c
 ·exact dBegin_no hv hHR hq hrl h
 ·exact dBegin_at hv hHR hq hrl hn h
def oneR (o : Tone) : List Value := [.bool o.made, .bool o.shut, .int .i64 (o.prog - 1), .int .i64 o.starts]
theorem oneR_len (o : Tone) : (oneR o).length = 4 := rfl
abbrev onR (As : List Tone) : List Value := As.flatMap oneR
theorem onR_len (As : List Tone) : (onR As).length = As.length * 4 := flat_length oneR_len As
theorem onR_one (As : List Tone) : (onR As).all Value.oneCell' = true := by
 rw [List.all_flatMap, List.all_eq_true]; exact fun t _ => rfl
def DmV (w0 : World) (HR : Heap) (n : Nat) (S : St) (Q Rs : List (Int × Int)) (As : List Tone) (cs : List Value) : Prop := ∃ adb capb Ds ad1 cap1 ad2 cap2 ad3 cap3, cs = [.slice adb (S).length capb, .int .i64 (n : Int), .slice ad1 (Q).length cap1, .slice ad2 (Rs).length cap2, .slice ad3 (As).length cap3] ∧ RbIs w0 HR S adb Ds ∧ Q.length ≤ cap1 ∧ Rs.length ≤ cap2 ∧ Holds w0 HR ad1 (thRow Q) ∧ Holds w0 HR ad2 (thRow Rs) ∧ Holds w0 HR ad3 (onR As) ∧ As.length ≤ cap3
theorem RbIs.up {w0 : World} {H H' : Heap} {S : St} {ad : Option Addr} {Ds : List Rw} (h : RbIs w0 H S ad Ds) (hs : HSub H' H) : RbIs w0 H' S ad Ds := ⟨h.row.up hs, fun d hd => ⟨(h.each d hd).1.up hs, (h.each d hd).2⟩, h.st⟩
theorem DmV.up {w0 : World} {HR H' : Heap} {n : Nat} {S : St} {Q Rs : List (Int × Int)} {As : List Tone} {cs : List Value} (h : DmV w0 HR n S Q Rs As cs) (hs : HSub H' HR) : DmV w0 H' n S Q Rs As cs := by
 obtain ⟨adb, capb, Ds, ad1, cap1, ad2, cap2, ad3, cap3, e, hb, h1, h2, h3, h4, h5, h6⟩ := h
 exact ⟨adb, capb, Ds, ad1, cap1, ad2, cap2, ad3, cap3, e, hb.up hs, h1, h2, h3.up hs, h4.up hs, h5.up hs, h6⟩
structure DOk (n : Nat) (S : St) (Q Rs : List (Int × Int)) (As : List Tone) : Prop where
 st : StOk S
 len : S.length = n
 n64 : n ≤ 64
 q : QOk n Q
 r : Rs.length ≤ 1000
 asl : As.length = 256
theorem dis_pure {id : Int} : Pure Tryz.prog (fun _ => True) 70 [.int .i64 id] (.bool (decide (0 ≤ id ∧ id < 256))) := by
 intro w0 H hT
 refine L_enter Tryz.func70 rfl Tryz.ntmps70 rfl rfl ?_
 refine W_sr ?_
 refine W_assign rfl rfl ?_
 refine W_nil (W_sr ?_)
 refine W_move rfl rfl ?_
 refine W_bin rfl rfl b_geq rfl ?_
 refine W_move rfl rfl ?_
 apply W_and
 iterate 4 exact rfl
 case h1 =>
  intro hg2
  refine W_gyes rfl rfl ?_
  refine W_move rfl rfl ?_
  refine W_gyes rfl rfl ?_
  refine W_bin rfl rfl b_lss rfl ?_
  exact W_met rfl zR
 refine W_assign rfl rfl ?_
 refine W_nil ?_
 refine W_ret1m (H2 := H) Tryz.results70 rfl (.nil _) zH ?_
 refine ⟨?_, rfl⟩
 by_cases h0 : (0 : Int) ≤ id <;> by_cases h1 : id < 256 <;> simp [h0, h1]
theorem dmset_L {w0 : World} {H : Heap} {HR : Heap} {n : Nat} {S : St} {Q Rs : List (Int × Int)} {As : List Tone} {cs : List Value} (hv : DmV w0 HR n S Q Rs As cs) (hHR : HSub H HR) (hA : As.length = 256) {i : Nat} {o : Tone} (hi : i < As.length)  : LCalls Tryz.prog w0 93 #[.agg (List.toArray cs), .int .i64 (i : Int), .agg (List.toArray (oneR o))] (H) (fun v H' => ∃ cs1 X, v = .agg (List.toArray cs1) ∧ DmV w0 (X ++ HR) n (S) (Q) (Rs) (As.set i o) cs1 ∧ H' = X ++ H) := by
 obtain ⟨adb, capb, Ds, ad1, cap1, ad2, cap2, ad3, cap3, rfl, hb, hc1, hc2, hQ0, hR0, hA0, hc3⟩ := hv
 have hA1 := hA0.up hHR
 refine L_enter (l := [.agg (List.toArray [.slice adb (S).length capb, .int .i64 (n : Int), .slice ad1 (Q).length cap1, .slice ad2 (Rs).length cap2, .slice ad3 (As).length cap3]), .int .i64 (i : Int), .agg (List.toArray (oneR o))]) Tryz.func93 rfl Tryz.ntmps93 rfl rfl ?_
 refine W_sr ?_
 refine W_box (l := [.slice adb (S).length capb, .int .i64 (n : Int), .slice ad1 (Q).length cap1, .slice ad2 (Rs).length cap2, .slice ad3 (As).length cap3]) rfl rfl rfl (fun b3 => ?_)
 refine W_box (l := oneR o) rfl rfl rfl (fun b5 => ?_)
 refine W_alloc (l := [.slice none 0 0, .int .i64 0, .slice none 0 0, .slice none 0 0, .slice none 0 0]) ty63 rfl rfl (fun b6 => ?_)
 refine W_nil (W_sr ?_)
 refine W_buildSlice (l := []) ty61 ty78 .nil rfl rfl rfl rfl rfl rfl rfl (fun b8 => ?_)
 refine W_fieldAddr rfl fld63_2 zd rfl ?_
 refine W_load (v := .slice ad3 (As).length cap3) rfl ty61 rfl (Cell.own (b := b3) zM rfl) rfl ?_
 refine W_append (news := onR As) (m := As.length) (HB := [(b8, .cells 78 0 [])]) (H0 := (b3, .cells 63 5 [.slice adb (S).length capb, .int .i64 (n : Int), .slice ad1 (Q).length cap1, .slice ad2 (Rs).length cap2, .slice ad3 (As).length cap3]) :: (b5, .cells 78 4 (oneR o)) :: (b6, .cells 63 5 [.slice none 0 0, .int .i64 0, .slice none 0 0, .slice none 0 0, .slice none 0 0]) :: H) rfl rfl ty61 ty78 rfl (by decide) (OwnS.own (n := 0) (cap := 0) (xs := []) rfl (Nat.le_refl _) (Nat.zero_le _)) (onR_len As) (hA1.up zH) (onR_one As) (by simp only [maxLen]; omega) (by omega) zH rfl (fun v1 X1 hO1 => ?_)
 rw [Nat.zero_add] at hO1
 obtain ⟨b1, cap4, rfl, rfl, hcap4⟩ := hO1.pos zO
 simp only [List.nil_append, List.cons_append] at hO1 ⊢
 refine W_assign rfl rfl ?_
 refine W_nil (W_sr ?_)
 refine W_move rfl rfl ?_
 refine W_move rfl rfl ?_
 refine W_loadB (vs := oneR o) rfl ty78 rfl (b := b5) zM rfl rfl rfl ?_
 refine W_indexAddr (j := i) rfl rfl ty61 ty78 rfl zO rfl rfl ?_
 refine W_storeA (l' := onR (As.set i o)) rfl rfl ty78 rfl rfl (b := b1) zM (by show 0 + i * 4 + 4 ≤ (onR As).length; rw [onR_len]; omega) (by rw [Nat.zero_add]; exact flat_set oneR_len o hi) zU ?_
 refine W_nil (W_sr ?_)
 refine W_move rfl rfl ?_
 refine W_fieldAddr rfl fld63_2 zd rfl ?_
 refine W_store (l' := [.slice adb (S).length capb, .int .i64 (n : Int), .slice ad1 (Q).length cap1, .slice ad2 (Rs).length cap2, .slice (some ⟨b1, 0, none⟩) As.length cap4]) rfl rfl ty61 rfl rfl (b := b3) zM rfl rfl zU ?_
 refine W_nil (W_sr ?_)
 refine W_loadB (vs := [.slice adb (S).length capb, .int .i64 (n : Int), .slice ad1 (Q).length cap1, .slice ad2 (Rs).length cap2, .slice (some ⟨b1, 0, none⟩) As.length cap4]) rfl ty63 rfl (b := b3) zM rfl rfl rfl ?_
 refine W_storeA (l' := [.slice adb (S).length capb, .int .i64 (n : Int), .slice ad1 (Q).length cap1, .slice ad2 (Rs).length cap2, .slice (some ⟨b1, 0, none⟩) As.length cap4]) rfl rfl ty63 rfl rfl (b := b6) zM (by exact Nat.le_refl 5) rfl zU ?_
 refine W_nil ?_
 refine W_ret1cO (H2 := (b1, .cells 78 (cap4 * 4) (onR (As.set i o))) :: H) Tryz.results93 rfl (.nil _) ty63 rfl zM rfl zH ?_
 refine ⟨_, [_], rfl, ⟨adb, capb, Ds, ad1, cap1, ad2, cap2, some ⟨b1, 0, none⟩, cap4, by rw [List.length_set], hb.up (.drop (.refl _)), hc1, hc2, hQ0.up (.drop (.refl _)), hR0.up (.drop (.refl _)), Holds.own List.mem_cons_self, by rw [List.length_set]; exact hcap4⟩, rfl⟩
theorem dmTake_L {w0 : World} {H : Heap} {HR : Heap} {n : Nat} {S : St} {Q Rs : List (Int × Int)} {As : List Tone} {cs : List Value} (hv : DmV w0 HR n S Q Rs As cs) (hHR : HSub H HR) (hok : DOk n S Q Rs As) {id : Int}  : LCalls Tryz.prog w0 94 #[.agg (List.toArray cs), .int .i64 id] (H) (fun v H' => ∃ cs1 X, v = .tuple #[.agg (List.toArray cs1), .bool ((findS S id).isSome || (whQ Q id).isSome)] ∧ DmV w0 (X ++ HR) n (delOne S id) (delQ Q id) (Rs) (As) cs1 ∧ H' = X ++ H) := by
 obtain ⟨adb, capb, Ds, ad1, cap1, ad2, cap2, ad3, cap3, rfl, hb, hc1, hc2, hQ0, hR0, hA0, hc3⟩ := hv
 obtain ⟨hS, hSn, hSl, hq, hrl, hA⟩ := hok
 refine L_enter (l := [.agg (List.toArray [.slice adb (S).length capb, .int .i64 (n : Int), .slice ad1 (Q).length cap1, .slice ad2 (Rs).length cap2, .slice ad3 (As).length cap3]), .int .i64 id]) Tryz.func94 rfl Tryz.ntmps94 rfl rfl ?_
 refine W_sr ?_
 refine W_box (l := [.slice adb (S).length capb, .int .i64 (n : Int), .slice ad1 (Q).length cap1, .slice ad2 (Rs).length cap2, .slice ad3 (As).length cap3]) rfl rfl rfl (fun b2 => ?_)
 refine W_alloc (l := [.slice none 0 0, .int .i64 0, .slice none 0 0, .slice none 0 0, .slice none 0 0]) ty63 rfl rfl (fun b4 => ?_)
 refine W_assign rfl rfl ?_
 refine W_nil (W_sr ?_)
 refine W_fieldAddr rfl fld63_0 zd rfl ?_
 refine W_load (v := .slice adb (S).length capb) rfl ty57 rfl (Cell.own (b := b2) zM rfl) rfl ?_
 refine W_move rfl rfl ?_
 refine W_call (.cons rfl (.cons rfl .nil)) Tryz.call112 rfl (LCalls.hsub (rbDel_L (S := S) (id := id) hS ⟨adb, capb, Ds, rfl, hb⟩ ((show HSub _ H from zH).trans hHR) zO (H := (b2, .cells 63 5 [.slice adb (S).length capb, .int .i64 (n : Int), .slice ad1 (Q).length cap1, .slice ad2 (Rs).length cap2, .slice ad3 (As).length cap3]) :: (b4, .cells 63 5 [.slice none 0 0, .int .i64 0, .slice none 0 0, .slice none 0 0, .slice none 0 0]) :: H)) zH) ?_
 rintro v H' ⟨vw, X1, rfl, ⟨adc, capc, Es, rfl, hbc⟩, rfl⟩
 refine W_move rfl rfl ?_
 refine W_extract rfl rfl rfl ?_
 refine W_extract rfl rfl rfl ?_
 refine W_assign rfl rfl ?_
 refine W_assign rfl rfl ?_
 refine W_nil (W_sr ?_)
 refine W_fieldAddr rfl fld63_1 zd rfl ?_
 refine W_loadB (vs := [.int .i64 (n : Int), .slice ad1 (Q).length cap1, .slice ad2 (Rs).length cap2]) rfl ty60 rfl (b := b2) zM rfl rfl rfl ?_
 refine W_move rfl rfl ?_
 refine W_call (.cons rfl (.cons rfl .nil)) Tryz.call113 rfl (LCalls.hsub (dDel_L (n := n) (Q := Q) (Rs := Rs) (id := id) ⟨ad1, cap1, ad2, cap2, rfl, hc1, hc2, hQ0, hR0⟩ ((show HSub _ H from zH).trans hHR) hq hrl (H := (b2, .cells 63 5 [.slice adb (S).length capb, .int .i64 (n : Int), .slice ad1 (Q).length cap1, .slice ad2 (Rs).length cap2, .slice ad3 (As).length cap3]) :: (b4, .cells 63 5 [.slice none 0 0, .int .i64 0, .slice none 0 0, .slice none 0 0, .slice none 0 0]) :: (X1 ++ H))) zH) ?_
 rintro v H' ⟨cs1, X2_, rfl, ⟨ad5, cap5, ad6, cap6, rfl, hc5, hc6, hQ5, hR5⟩, rfl⟩
 refine W_move rfl rfl ?_
 refine W_extract rfl rfl rfl ?_
 refine W_extract rfl rfl rfl ?_
 refine W_alloc (l := [.int .i64 0, .slice none 0 0, .slice none 0 0]) ty60 rfl rfl (fun b8 => ?_)
 refine W_storeA (l' := [.int .i64 (n : Int), .slice ad5 (delQ Q id).length cap5, .slice ad6 (Rs).length cap6]) rfl rfl ty60 rfl rfl (b := b8) zM (by exact Nat.le_refl 3) rfl zU ?_
 refine W_assign rfl rfl ?_
 refine W_nil (W_seq ?_)
 refine W_anyC [(b8, .cells 60 3 [.int .i64 (n : Int), .slice ad5 (delQ Q id).length cap5, .slice ad6 (Rs).length cap6])] zk ?_
 refine WC_take 0 (l' := #[true, false, false, false, false, false]) rfl zK zK zK rfl zK (X_move rfl) rfl ?_
 refine WC_take 1 (l' := #[true, true, false, false, false, false]) rfl zK zK zK rfl zK (X_loadB (vs := [.int .i64 (n : Int), .slice ad5 (delQ Q id).length cap5, .slice ad6 (Rs).length cap6]) rfl ty60 rfl (b := b8) zM rfl rfl) rfl ?_
 refine WC_take 2 (l' := #[true, true, true, false, false, false]) rfl zK zK zK rfl zK (X_fieldAddr rfl fld63_0 zd) rfl ?_
 refine WC_one 3 (l' := #[true, true, true, true, false, false]) zH zK rfl zK ?_
 refine W_store (l' := [.slice adc (delOne S id).length capc, .int .i64 (n : Int), .slice ad1 (Q).length cap1, .slice ad2 (Rs).length cap2, .slice ad3 (As).length cap3]) rfl rfl ty57 rfl rfl (b := b2) zM rfl rfl zU ?_
 refine W_nil ?_
 refine WC_goal ?_
 refine WC_take 4 (l' := #[true, true, true, true, true, false]) rfl zK zK zK rfl zK (X_fieldAddr rfl fld63_1 zd) rfl ?_
 refine WC_one 5 (l' := #[true, true, true, true, true, true]) zH zK rfl zK ?_
 refine W_storeA (l' := [.slice adc (delOne S id).length capc, .int .i64 (n : Int), .slice ad5 (delQ Q id).length cap5, .slice ad6 (Rs).length cap6, .slice ad3 (As).length cap3]) rfl rfl ty60 rfl rfl (b := b2) zM (by show 1 + 3 ≤ 5; omega) rfl zU ?_
 refine W_nil ?_
 refine WC_goal ?_
 refine WC_done zH zK ?_
 refine W_sr ?_
 refine W_loadB (vs := [.slice adc (delOne S id).length capc, .int .i64 (n : Int), .slice ad5 (delQ Q id).length cap5, .slice ad6 (Rs).length cap6, .slice ad3 (As).length cap3]) rfl ty63 rfl (b := b2) zM rfl rfl rfl ?_
 refine W_move rfl rfl ?_
 refine W_move rfl rfl ?_
 apply W_or
 iterate 4 exact rfl
 case h1 =>
  intro hg2
  refine W_gyes rfl rfl ?_
  refine W_move rfl rfl ?_
  exact W_met rfl zR
 refine W_storeA (l' := [.slice adc (delOne S id).length capc, .int .i64 (n : Int), .slice ad5 (delQ Q id).length cap5, .slice ad6 (Rs).length cap6, .slice ad3 (As).length cap3]) rfl rfl ty63 rfl rfl (b := b4) zM (by exact Nat.le_refl 5) rfl zU ?_
 refine W_assign rfl rfl ?_
 refine W_nil ?_
 refine W_ret2G (H2 := X2_ ++ (X1 ++ H)) Tryz.results94 (.nil _) (.own rfl ty63 rfl zM rfl) (.tmp rfl) zH ?_
 exact ⟨_, X2_ ++ X1, rfl, ⟨adc, capc, Es, ad5, cap5, ad6, cap6, ad3, cap3, rfl, by rw [List.append_assoc]; exact hbc.up (.dropS (.refl _)), hc5, hc6, by rw [List.append_assoc]; exact hQ5.up (.app (.here _) (.dropS (.refl _))), by rw [List.append_assoc]; exact hR5.up (.app (.here _) (.dropS (.refl _))), hA0.up (.dropS (.refl _)), hc3⟩, by rw [List.append_assoc]⟩
theorem setA_no {As : List Tone} {id prog : Int} (h : ¬ (0 ≤ id ∧ id < 256) ∨ prog < 0 ∨ 15 < prog) : setA As id prog = (As, 2) := by
 unfold setA
 rcases h with h | h | h
 ·split
  ·exact onA_out h
  ·rfl
 ·exact if_neg zO
 ·exact if_neg zO
theorem setA_at {As : List Tone} {i : Nat} {o : Tone} {prog : Int} (hi : i < 256) (hp : 0 ≤ prog ∧ prog ≤ 15) (ho : As[i]? = some o) : setA As (i : Int) prog = (As.set i (setO prog o).1, (setO prog o).2) := by
 unfold setA
 rw [if_pos (by omega), onA_at hi ho]
theorem dmInit_L {w0 : World} {H : Heap} {HR : Heap} {n : Nat} {S : St} {Q Rs : List (Int × Int)} {As : List Tone} {cs : List Value} (hv : DmV w0 HR n S Q Rs As cs) (hHR : HSub H HR) (hok : DOk n S Q Rs As) {id : Int}  : LCalls Tryz.prog w0 57 #[.agg (List.toArray cs), .int .i64 id] (H) (fun v H' => ∃ cs1 X, v = .tuple #[.agg (List.toArray cs1), .int .i64 (onA initO As id).2] ∧ DmV w0 (X ++ HR) n (S) (Q) (Rs) ((onA initO As id).1) cs1 ∧ H' = X ++ H) := by
 obtain ⟨adb, capb, Ds, ad1, cap1, ad2, cap2, ad3, cap3, rfl, hb, hc1, hc2, hQ0, hR0, hA0, hc3⟩ := hv
 obtain ⟨hS, hSn, hSl, hq, hrl, hA⟩ := hok
 refine L_enter (l := [.agg (List.toArray [.slice adb (S).length capb, .int .i64 (n : Int), .slice ad1 (Q).length cap1, .slice ad2 (Rs).length cap2, .slice ad3 (As).length cap3]), .int .i64 id]) Tryz.func57 rfl Tryz.ntmps57 rfl rfl ?_
 refine W_sr ?_
 refine W_box (l := [.slice adb (S).length capb, .int .i64 (n : Int), .slice ad1 (Q).length cap1, .slice ad2 (Rs).length cap2, .slice ad3 (As).length cap3]) rfl rfl rfl (fun b2 => ?_)
 refine W_alloc (l := [.slice none 0 0, .int .i64 0, .slice none 0 0, .slice none 0 0, .slice none 0 0]) ty63 rfl rfl (fun b4 => ?_)
 refine W_assign rfl rfl ?_
 refine W_nil (W_seq (W_sr ?_))
 refine W_move rfl rfl ?_
 refine W_callp (.cons rfl .nil) Tryz.call70 rfl (T := fun _ => True) trivial dis_pure ?_
 rcases Decidable.em (0 ≤ id ∧ id < 256) with hi | hi
 ·skip
  rw [decide_eq_true hi]
  obtain ⟨i, rfl⟩ : ∃ i : Nat, id = (i : Int) := ⟨id.toNat, by omega⟩
  obtain ⟨o, ho⟩ : ∃ o, As[i]? = some o := ⟨_, List.getElem?_eq_getElem zO⟩
  obtain ⟨q0, p0, eq0, hcx⟩ := Holds.row oneR_len zd hA0 ho
  refine W_not rfl rfl ?_
  refine W_nil ?_
  refine W_condF rfl rfl ?_
  refine W_skip (W_sr ?_)
  refine W_fieldAddr rfl fld63_2 zd rfl ?_
  refine W_load (v := .slice ad3 (As).length cap3) rfl ty61 rfl (Cell.own (b := b2) zM rfl) rfl ?_
  refine W_move rfl rfl ?_
  refine W_indexAddr (b := q0) (o := p0) (j := i) (by rw [← eq0]; rfl) rfl ty61 ty78 rfl (by omega) rfl rfl ?_
  refine W_loadA (vs := oneR o) rfl ty78 rfl rfl (hcx.up ((show HSub _ H from zH).trans hHR)) rfl ?_
  refine W_alloc (l := [.bool false, .bool false, .int .i64 0, .int .i64 0]) ty78 rfl rfl (fun b6 => ?_)
  refine W_storeA (l' := oneR o) rfl rfl ty78 rfl rfl (b := b6) zM (by exact Nat.le_refl 4) rfl zU ?_
  refine W_nil (W_seq (W_sr ?_))
  refine W_fieldAddr rfl fld78_1 zd rfl ?_
  refine W_load (v := .bool o.shut) rfl ty4 rfl (Cell.own (b := b6) zM rfl) rfl ?_
  refine W_nil ?_
  refine W_condPS (p := o.shut = true) rfl (by simp) (fun c0 => ?_) (fun c0 => ?_)
  ·skip
   refine W_sr ?_
   refine W_loadB (vs := [.slice adb (S).length capb, .int .i64 (n : Int), .slice ad1 (Q).length cap1, .slice ad2 (Rs).length cap2, .slice ad3 (As).length cap3]) rfl ty63 rfl (b := b2) zM rfl rfl rfl ?_
   refine W_storeA (l' := [.slice adb (S).length capb, .int .i64 (n : Int), .slice ad1 (Q).length cap1, .slice ad2 (Rs).length cap2, .slice ad3 (As).length cap3]) rfl rfl ty63 rfl rfl (b := b4) zM (by exact Nat.le_refl 5) rfl zU ?_
   refine W_assign rfl rfl ?_
   refine W_nil ?_
   refine W_ret2G (H2 := H) Tryz.results57 (.nil _) (.own rfl ty63 rfl zM rfl) (.tmp rfl) zH ?_
   have e : initO o = (o, 22) := if_pos c0
   rw [onA_at (by omega) ho, e, set_self ho]
   exact ⟨_, [], rfl, ⟨adb, capb, Ds, ad1, cap1, ad2, cap2, ad3, cap3, rfl, hb, hc1, hc2, hQ0, hR0, hA0, hc3⟩, rfl⟩
  ·skip
   refine W_skip (W_seq (W_sr ?_))
   refine W_fieldAddr rfl fld78_0 zd rfl ?_
   refine W_load (v := .bool o.made) rfl ty4 rfl (Cell.own (b := b6) zM rfl) rfl ?_
   refine W_nil ?_
   refine W_condPS (p := o.made = true) rfl (by simp) (fun c1 => ?_) (fun c1 => ?_)
   ·skip
    refine W_sr ?_
    refine W_loadB (vs := [.slice adb (S).length capb, .int .i64 (n : Int), .slice ad1 (Q).length cap1, .slice ad2 (Rs).length cap2, .slice ad3 (As).length cap3]) rfl ty63 rfl (b := b2) zM rfl rfl rfl ?_
    refine W_storeA (l' := [.slice adb (S).length capb, .int .i64 (n : Int), .slice ad1 (Q).length cap1, .slice ad2 (Rs).length cap2, .slice ad3 (As).length cap3]) rfl rfl ty63 rfl rfl (b := b4) zM (by exact Nat.le_refl 5) rfl zU ?_
    refine W_assign rfl rfl ?_
    refine W_nil ?_
    refine W_ret2G (H2 := H) Tryz.results57 (.nil _) (.own rfl ty63 rfl zM rfl) (.tmp rfl) zH ?_
    have e : initO o = (o, 5) := by unfold initO; rw [if_neg c0, if_pos c1]
    rw [onA_at (by omega) ho, e, set_self ho]
    exact ⟨_, [], rfl, ⟨adb, capb, Ds, ad1, cap1, ad2, cap2, ad3, cap3, rfl, hb, hc1, hc2, hQ0, hR0, hA0, hc3⟩, rfl⟩
   ·skip
    refine W_skip (W_sr ?_)
    refine W_fieldAddr rfl fld78_0 zd rfl ?_
    refine W_store (l' := oneR { o with made := true }) rfl rfl ty4 rfl rfl (b := b6) zM rfl rfl zU ?_
    refine W_nil (W_sr ?_)
    refine W_loadB (vs := [.slice adb (S).length capb, .int .i64 (n : Int), .slice ad1 (Q).length cap1, .slice ad2 (Rs).length cap2, .slice ad3 (As).length cap3]) rfl ty63 rfl (b := b2) zM rfl rfl rfl ?_
    refine W_move rfl rfl ?_
    refine W_loadB (vs := oneR { o with made := true }) rfl ty78 rfl (b := b6) zM rfl rfl rfl ?_
    refine W_call (.cons rfl (.cons rfl (.cons rfl .nil))) Tryz.call93 rfl (LCalls.hsub (dmset_L (S := S) (Q := Q) (Rs := Rs) (As := As) (n := n) (i := i) (o := { o with made := true }) ⟨adb, capb, Ds, ad1, cap1, ad2, cap2, ad3, cap3, rfl, hb, hc1, hc2, hQ0, hR0, hA0, hc3⟩ ((show HSub _ H from zH).trans hHR) hA zO (H := (b2, .cells 63 5 [.slice adb (S).length capb, .int .i64 (n : Int), .slice ad1 (Q).length cap1, .slice ad2 (Rs).length cap2, .slice ad3 (As).length cap3]) :: (b4, .cells 63 5 [.slice none 0 0, .int .i64 0, .slice none 0 0, .slice none 0 0, .slice none 0 0]) :: (b6, .cells 78 4 (oneR { o with made := true })) :: H)) zH) ?_
    rintro v H' ⟨cs2, X, rfl, ⟨adc, capc, Es, ad5, cap5, ad6, cap6, ad7, cap7, rfl, hb2, k1, k2, hQ2, hR2, hA2, k3⟩, rfl⟩
    refine W_storeA (l' := [.slice adc (S).length capc, .int .i64 (n : Int), .slice ad5 (Q).length cap5, .slice ad6 (Rs).length cap6, .slice ad7 (As.set i { o with made := true }).length cap7]) rfl rfl ty63 rfl rfl (b := b4) zM (by exact Nat.le_refl 5) rfl zU ?_
    refine W_assign rfl rfl ?_
    refine W_nil ?_
    refine W_ret2G (H2 := X ++ H) Tryz.results57 (.nil _) (.own rfl ty63 rfl zM rfl) (.tmp rfl) zH ?_
    have e : initO o = ({ o with made := true }, 0) := by unfold initO; rw [if_neg c0, if_neg c1]
    rw [onA_at (by omega) ho, e]
    exact ⟨_, X, rfl, ⟨adc, capc, Es, ad5, cap5, ad6, cap6, ad7, cap7, rfl, hb2, k1, k2, hQ2, hR2, hA2, k3⟩, rfl⟩
 ·skip
  rw [decide_eq_false hi]
  refine W_not rfl rfl ?_
  refine W_nil ?_
  refine W_condT rfl rfl ?_
  refine W_sr ?_
  refine W_loadB (vs := [.slice adb (S).length capb, .int .i64 (n : Int), .slice ad1 (Q).length cap1, .slice ad2 (Rs).length cap2, .slice ad3 (As).length cap3]) rfl ty63 rfl (b := b2) zM rfl rfl rfl ?_
  refine W_storeA (l' := [.slice adb (S).length capb, .int .i64 (n : Int), .slice ad1 (Q).length cap1, .slice ad2 (Rs).length cap2, .slice ad3 (As).length cap3]) rfl rfl ty63 rfl rfl (b := b4) zM (by exact Nat.le_refl 5) rfl zU ?_
  refine W_assign rfl rfl ?_
  refine W_nil ?_
  refine W_ret2G (H2 := H) Tryz.results57 (.nil _) (.own rfl ty63 rfl zM rfl) (.tmp rfl) zH ?_
  rw [onA_out hi]
  exact ⟨_, [], rfl, ⟨adb, capb, Ds, ad1, cap1, ad2, cap2, ad3, cap3, rfl, hb, hc1, hc2, hQ0, hR0, hA0, hc3⟩, rfl⟩
theorem dmSet_L {w0 : World} {H : Heap} {HR : Heap} {n : Nat} {S : St} {Q Rs : List (Int × Int)} {As : List Tone} {cs : List Value} (hv : DmV w0 HR n S Q Rs As cs) (hHR : HSub H HR) (hok : DOk n S Q Rs As) {id prog : Int}  : LCalls Tryz.prog w0 58 #[.agg (List.toArray cs), .int .i64 id, .int .i64 prog] (H) (fun v H' => ∃ cs1 X, v = .tuple #[.agg (List.toArray cs1), .int .i64 (setA As id prog).2] ∧ DmV w0 (X ++ HR) n (S) (Q) (Rs) ((setA As id prog).1) cs1 ∧ H' = X ++ H) := by
 obtain ⟨adb, capb, Ds, ad1, cap1, ad2, cap2, ad3, cap3, rfl, hb, hc1, hc2, hQ0, hR0, hA0, hc3⟩ := hv
 obtain ⟨hS, hSn, hSl, hq, hrl, hA⟩ := hok
 refine L_enter (l := [.agg (List.toArray [.slice adb (S).length capb, .int .i64 (n : Int), .slice ad1 (Q).length cap1, .slice ad2 (Rs).length cap2, .slice ad3 (As).length cap3]), .int .i64 id, .int .i64 prog]) Tryz.func58 rfl Tryz.ntmps58 rfl rfl ?_
 refine W_sr ?_
 refine W_box (l := [.slice adb (S).length capb, .int .i64 (n : Int), .slice ad1 (Q).length cap1, .slice ad2 (Rs).length cap2, .slice ad3 (As).length cap3]) rfl rfl rfl (fun b3 => ?_)
 refine W_alloc (l := [.slice none 0 0, .int .i64 0, .slice none 0 0, .slice none 0 0, .slice none 0 0]) ty63 rfl rfl (fun b6 => ?_)
 refine W_assign rfl rfl ?_
 refine W_nil (W_seq (W_sr ?_))
 refine W_move rfl rfl ?_
 refine W_callp (.cons rfl .nil) Tryz.call70 rfl (T := fun _ => True) trivial dis_pure ?_
 rcases (show ¬ (0 ≤ id ∧ id < 256) ∨ (0 ≤ id ∧ id < 256) ∧ prog < 0 ∨ (0 ≤ id ∧ id < 256) ∧ 15 < prog ∨ (0 ≤ id ∧ id < 256) ∧ 0 ≤ prog ∧ prog ≤ 15 by omega) with hi | ⟨hi, hp⟩ | ⟨hi, hp⟩ | ⟨hi, hp⟩
 ·skip
  rw [decide_eq_false hi]
  refine W_not rfl rfl ?_
  refine W_move rfl rfl ?_
  refine W_gno rfl rfl rfl ?_
  refine W_gno rfl rfl rfl ?_
  first | refine W_pickt rfl rfl rfl ?_ | refine W_pickf rfl rfl rfl ?_
  refine W_move rfl rfl ?_
  refine W_gno rfl rfl rfl ?_
  refine W_gno rfl rfl rfl ?_
  first | refine W_pickt rfl rfl rfl ?_ | refine W_pickf rfl rfl rfl ?_
  refine W_nil ?_
  refine W_condT rfl rfl ?_
  refine W_sr ?_
  refine W_loadB (vs := [.slice adb (S).length capb, .int .i64 (n : Int), .slice ad1 (Q).length cap1, .slice ad2 (Rs).length cap2, .slice ad3 (As).length cap3]) rfl ty63 rfl (b := b3) zM rfl rfl rfl ?_
  refine W_storeA (l' := [.slice adb (S).length capb, .int .i64 (n : Int), .slice ad1 (Q).length cap1, .slice ad2 (Rs).length cap2, .slice ad3 (As).length cap3]) rfl rfl ty63 rfl rfl (b := b6) zM (by exact Nat.le_refl 5) rfl zU ?_
  refine W_assign rfl rfl ?_
  refine W_nil ?_
  refine W_ret2G (H2 := H) Tryz.results58 (.nil _) (.own rfl ty63 rfl zM rfl) (.tmp rfl) zH ?_
  rw [setA_no (.inl hi)]
  exact ⟨_, [], rfl, ⟨adb, capb, Ds, ad1, cap1, ad2, cap2, ad3, cap3, rfl, hb, hc1, hc2, hQ0, hR0, hA0, hc3⟩, rfl⟩
 ·skip
  rw [decide_eq_true hi]
  refine W_not rfl rfl ?_
  refine W_move rfl rfl ?_
  refine W_gyes rfl rfl ?_
  refine W_move rfl rfl ?_
  refine W_gyes rfl rfl ?_
  refine W_bin rfl rfl b_lss rfl ?_
  first | rw [decide_eq_true (by omega)] | rw [decide_eq_false (by omega)]
  first | refine W_pickt rfl rfl rfl ?_ | refine W_pickf rfl rfl rfl ?_
  refine W_move rfl rfl ?_
  refine W_gno rfl rfl rfl ?_
  refine W_gno rfl rfl rfl ?_
  first | refine W_pickt rfl rfl rfl ?_ | refine W_pickf rfl rfl rfl ?_
  refine W_nil ?_
  refine W_condT rfl rfl ?_
  refine W_sr ?_
  refine W_loadB (vs := [.slice adb (S).length capb, .int .i64 (n : Int), .slice ad1 (Q).length cap1, .slice ad2 (Rs).length cap2, .slice ad3 (As).length cap3]) rfl ty63 rfl (b := b3) zM rfl rfl rfl ?_
  refine W_storeA (l' := [.slice adb (S).length capb, .int .i64 (n : Int), .slice ad1 (Q).length cap1, .slice ad2 (Rs).length cap2, .slice ad3 (As).length cap3]) rfl rfl ty63 rfl rfl (b := b6) zM (by exact Nat.le_refl 5) rfl zU ?_
  refine W_assign rfl rfl ?_
  refine W_nil ?_
  refine W_ret2G (H2 := H) Tryz.results58 (.nil _) (.own rfl ty63 rfl zM rfl) (.tmp rfl) zH ?_
  rw [setA_no (.inr (.inl hp))]
  exact ⟨_, [], rfl, ⟨adb, capb, Ds, ad1, cap1, ad2, cap2, ad3, cap3, rfl, hb, hc1, hc2, hQ0, hR0, hA0, hc3⟩, rfl⟩
 ·skip
  rw [decide_eq_true hi]
  refine W_not rfl rfl ?_
  refine W_move rfl rfl ?_
  refine W_gyes rfl rfl ?_
  refine W_move rfl rfl ?_
  refine W_gyes rfl rfl ?_
  refine W_bin rfl rfl b_lss rfl ?_
  first | rw [decide_eq_true (by omega)] | rw [decide_eq_false (by omega)]
  first | refine W_pickt rfl rfl rfl ?_ | refine W_pickf rfl rfl rfl ?_
  refine W_move rfl rfl ?_
  refine W_gyes rfl rfl ?_
  refine W_move rfl rfl ?_
  refine W_gyes rfl rfl ?_
  refine W_bin rfl rfl b_gtr rfl ?_
  first | rw [decide_eq_true (by omega)] | rw [decide_eq_false (by omega)]
  first | refine W_pickt rfl rfl rfl ?_ | refine W_pickf rfl rfl rfl ?_
  refine W_nil ?_
  refine W_condT rfl rfl ?_
  refine W_sr ?_
  refine W_loadB (vs := [.slice adb (S).length capb, .int .i64 (n : Int), .slice ad1 (Q).length cap1, .slice ad2 (Rs).length cap2, .slice ad3 (As).length cap3]) rfl ty63 rfl (b := b3) zM rfl rfl rfl ?_
  refine W_storeA (l' := [.slice adb (S).length capb, .int .i64 (n : Int), .slice ad1 (Q).length cap1, .slice ad2 (Rs).length cap2, .slice ad3 (As).length cap3]) rfl rfl ty63 rfl rfl (b := b6) zM (by exact Nat.le_refl 5) rfl zU ?_
  refine W_assign rfl rfl ?_
  refine W_nil ?_
  refine W_ret2G (H2 := H) Tryz.results58 (.nil _) (.own rfl ty63 rfl zM rfl) (.tmp rfl) zH ?_
  rw [setA_no (.inr (.inr hp))]
  exact ⟨_, [], rfl, ⟨adb, capb, Ds, ad1, cap1, ad2, cap2, ad3, cap3, rfl, hb, hc1, hc2, hQ0, hR0, hA0, hc3⟩, rfl⟩
 ·skip
  rw [decide_eq_true hi]
  obtain ⟨i, rfl⟩ : ∃ i : Nat, id = (i : Int) := ⟨id.toNat, by omega⟩
  obtain ⟨o, ho⟩ : ∃ o, As[i]? = some o := ⟨_, List.getElem?_eq_getElem zO⟩
  obtain ⟨q0, p0, eq0, hcx⟩ := Holds.row oneR_len zd hA0 ho
  refine W_not rfl rfl ?_
  refine W_move rfl rfl ?_
  refine W_gyes rfl rfl ?_
  refine W_move rfl rfl ?_
  refine W_gyes rfl rfl ?_
  refine W_bin rfl rfl b_lss rfl ?_
  first | rw [decide_eq_true (by omega)] | rw [decide_eq_false (by omega)]
  first | refine W_pickt rfl rfl rfl ?_ | refine W_pickf rfl rfl rfl ?_
  refine W_move rfl rfl ?_
  refine W_gyes rfl rfl ?_
  refine W_move rfl rfl ?_
  refine W_gyes rfl rfl ?_
  refine W_bin rfl rfl b_gtr rfl ?_
  first | rw [decide_eq_true (by omega)] | rw [decide_eq_false (by omega)]
  first | refine W_pickt rfl rfl rfl ?_ | refine W_pickf rfl rfl rfl ?_
  refine W_nil ?_
  refine W_condF rfl rfl ?_
  refine W_skip (W_sr ?_)
  refine W_fieldAddr rfl fld63_2 zd rfl ?_
  refine W_load (v := .slice ad3 (As).length cap3) rfl ty61 rfl (Cell.own (b := b3) zM rfl) rfl ?_
  refine W_move rfl rfl ?_
  refine W_indexAddr (b := q0) (o := p0) (j := i) (by rw [← eq0]; rfl) rfl ty61 ty78 rfl (by omega) rfl rfl ?_
  refine W_loadA (vs := oneR o) rfl ty78 rfl rfl (hcx.up ((show HSub _ H from zH).trans hHR)) rfl ?_
  refine W_alloc (l := [.bool false, .bool false, .int .i64 0, .int .i64 0]) ty78 rfl rfl (fun b8 => ?_)
  refine W_storeA (l' := oneR o) rfl rfl ty78 rfl rfl (b := b8) zM (by exact Nat.le_refl 4) rfl zU ?_
  refine W_nil (W_seq (W_sr ?_))
  refine W_fieldAddr rfl fld78_1 zd rfl ?_
  refine W_load (v := .bool o.shut) rfl ty4 rfl (Cell.own (b := b8) zM rfl) rfl ?_
  refine W_nil ?_
  refine W_condPS (p := o.shut = true) rfl (by simp) (fun c0 => ?_) (fun c0 => ?_)
  ·skip
   refine W_sr ?_
   refine W_loadB (vs := [.slice adb (S).length capb, .int .i64 (n : Int), .slice ad1 (Q).length cap1, .slice ad2 (Rs).length cap2, .slice ad3 (As).length cap3]) rfl ty63 rfl (b := b3) zM rfl rfl rfl ?_
   refine W_storeA (l' := [.slice adb (S).length capb, .int .i64 (n : Int), .slice ad1 (Q).length cap1, .slice ad2 (Rs).length cap2, .slice ad3 (As).length cap3]) rfl rfl ty63 rfl rfl (b := b6) zM (by exact Nat.le_refl 5) rfl zU ?_
   refine W_assign rfl rfl ?_
   refine W_nil ?_
   refine W_ret2G (H2 := H) Tryz.results58 (.nil _) (.own rfl ty63 rfl zM rfl) (.tmp rfl) zH ?_
   have e : setO prog o = (o, 22) := if_pos c0
   rw [setA_at (by omega) hp ho, e, set_self ho]
   exact ⟨_, [], rfl, ⟨adb, capb, Ds, ad1, cap1, ad2, cap2, ad3, cap3, rfl, hb, hc1, hc2, hQ0, hR0, hA0, hc3⟩, rfl⟩
  ·skip
   refine W_skip (W_seq (W_sr ?_))
   refine W_fieldAddr rfl fld78_0 zd rfl ?_
   refine W_load (v := .bool o.made) rfl ty4 rfl (Cell.own (b := b8) zM rfl) rfl ?_
   refine W_not rfl rfl ?_
   refine W_nil ?_
   refine W_condPS (p := o.made = false) rfl (by simp) (fun c1 => ?_) (fun c1 => ?_)
   ·skip
    refine W_sr ?_
    refine W_loadB (vs := [.slice adb (S).length capb, .int .i64 (n : Int), .slice ad1 (Q).length cap1, .slice ad2 (Rs).length cap2, .slice ad3 (As).length cap3]) rfl ty63 rfl (b := b3) zM rfl rfl rfl ?_
    refine W_storeA (l' := [.slice adb (S).length capb, .int .i64 (n : Int), .slice ad1 (Q).length cap1, .slice ad2 (Rs).length cap2, .slice ad3 (As).length cap3]) rfl rfl ty63 rfl rfl (b := b6) zM (by exact Nat.le_refl 5) rfl zU ?_
    refine W_assign rfl rfl ?_
    refine W_nil ?_
    refine W_ret2G (H2 := H) Tryz.results58 (.nil _) (.own rfl ty63 rfl zM rfl) (.tmp rfl) zH ?_
    have e : setO prog o = (o, 1) := by unfold setO; rw [if_neg c0, if_pos c1]
    rw [setA_at (by omega) hp ho, e, set_self ho]
    exact ⟨_, [], rfl, ⟨adb, capb, Ds, ad1, cap1, ad2, cap2, ad3, cap3, rfl, hb, hc1, hc2, hQ0, hR0, hA0, hc3⟩, rfl⟩
   ·skip
    refine W_skip (W_sr ?_)
    refine W_move rfl rfl ?_
    refine W_fieldAddr rfl fld78_2 zd rfl ?_
    refine W_store (l' := oneR { o with prog := prog + 1 }) rfl rfl ty3 rfl rfl (b := b8) zM rfl (by show [Value.bool o.made, .bool o.shut, .int .i64 prog, .int .i64 o.starts] = [Value.bool o.made, .bool o.shut, .int .i64 (prog + 1 - 1), .int .i64 o.starts]; rw [Int.add_sub_cancel]) zU ?_
    refine W_nil (W_sr ?_)
    refine W_loadB (vs := [.slice adb (S).length capb, .int .i64 (n : Int), .slice ad1 (Q).length cap1, .slice ad2 (Rs).length cap2, .slice ad3 (As).length cap3]) rfl ty63 rfl (b := b3) zM rfl rfl rfl ?_
    refine W_move rfl rfl ?_
    refine W_loadB (vs := oneR { o with prog := prog + 1 }) rfl ty78 rfl (b := b8) zM rfl rfl rfl ?_
    refine W_call (.cons rfl (.cons rfl (.cons rfl .nil))) Tryz.call93 rfl (LCalls.hsub (dmset_L (S := S) (Q := Q) (Rs := Rs) (As := As) (n := n) (i := i) (o := { o with prog := prog + 1 }) ⟨adb, capb, Ds, ad1, cap1, ad2, cap2, ad3, cap3, rfl, hb, hc1, hc2, hQ0, hR0, hA0, hc3⟩ ((show HSub _ H from zH).trans hHR) hA zO (H := (b3, .cells 63 5 [.slice adb (S).length capb, .int .i64 (n : Int), .slice ad1 (Q).length cap1, .slice ad2 (Rs).length cap2, .slice ad3 (As).length cap3]) :: (b6, .cells 63 5 [.slice none 0 0, .int .i64 0, .slice none 0 0, .slice none 0 0, .slice none 0 0]) :: (b8, .cells 78 4 (oneR { o with prog := prog + 1 })) :: H)) zH) ?_
    rintro v H' ⟨cs2, X, rfl, ⟨adc, capc, Es, ad5, cap5, ad6, cap6, ad7, cap7, rfl, hb2, k1, k2, hQ2, hR2, hA2, k3⟩, rfl⟩
    refine W_storeA (l' := [.slice adc (S).length capc, .int .i64 (n : Int), .slice ad5 (Q).length cap5, .slice ad6 (Rs).length cap6, .slice ad7 (As.set i { o with prog := prog + 1 }).length cap7]) rfl rfl ty63 rfl rfl (b := b6) zM (by exact Nat.le_refl 5) rfl zU ?_
    refine W_assign rfl rfl ?_
    refine W_nil ?_
    refine W_ret2G (H2 := X ++ H) Tryz.results58 (.nil _) (.own rfl ty63 rfl zM rfl) (.tmp rfl) zH ?_
    have e : setO prog o = ({ o with prog := prog + 1 }, 0) := by unfold setO; rw [if_neg c0, if_neg c1]
    rw [setA_at (by omega) hp ho, e]
    exact ⟨_, X, rfl, ⟨adc, capc, Es, ad5, cap5, ad6, cap6, ad7, cap7, rfl, hb2, k1, k2, hQ2, hR2, hA2, k3⟩, rfl⟩
def stopR (S : St) (Q : List (Int × Int)) (As : List Tone) (id : Int) : St × List (Int × Int) × Bool × Int := if 0 ≤ id ∧ id < 256 then (match As[id.toNat]? with
 | some o => if o.made = true then (delOne S id, delQ Q id, (findS S id).isSome || (whQ Q id).isSome, 0) else (S, Q, false, 1)
 | none => (S, Q, false, 1)) else (S, Q, false, 2)
theorem stopR_at {S : St} {Q : List (Int × Int)} {As : List Tone} {i : Nat} {o : Tone} (hi : i < 256) (ho : As[i]? = some o) : stopR S Q As (i : Int) = if o.made = true then (delOne S (i : Int), delQ Q (i : Int), (findS S (i : Int)).isSome || (whQ Q (i : Int)).isSome, 0) else (S, Q, false, 1) := by
 unfold stopR; rw [if_pos (by omega), show ((i : Nat) : Int).toNat = i by omega, ho]
theorem dmStop_L {w0 : World} {H : Heap} {HR : Heap} {n : Nat} {S : St} {Q Rs : List (Int × Int)} {As : List Tone} {cs : List Value} (hv : DmV w0 HR n S Q Rs As cs) (hHR : HSub H HR) (hok : DOk n S Q Rs As) {id : Int}  : LCalls Tryz.prog w0 60 #[.agg (List.toArray cs), .int .i64 id] (H) (fun v H' => ∃ cs1 X, v = .tuple #[.agg (List.toArray cs1), .bool (stopR S Q As id).2.2.1, .int .i64 (stopR S Q As id).2.2.2] ∧ DmV w0 (X ++ HR) n ((stopR S Q As id).1) ((stopR S Q As id).2.1) (Rs) (As) cs1 ∧ H' = X ++ H) := by
 obtain ⟨adb, capb, Ds, ad1, cap1, ad2, cap2, ad3, cap3, rfl, hb, hc1, hc2, hQ0, hR0, hA0, hc3⟩ := hv
 obtain ⟨hS, hSn, hSl, hq, hrl, hA⟩ := hok
 refine L_enter (l := [.agg (List.toArray [.slice adb (S).length capb, .int .i64 (n : Int), .slice ad1 (Q).length cap1, .slice ad2 (Rs).length cap2, .slice ad3 (As).length cap3]), .int .i64 id]) Tryz.func60 rfl Tryz.ntmps60 rfl rfl ?_
 refine W_sr ?_
 refine W_box (l := [.slice adb (S).length capb, .int .i64 (n : Int), .slice ad1 (Q).length cap1, .slice ad2 (Rs).length cap2, .slice ad3 (As).length cap3]) rfl rfl rfl (fun b2 => ?_)
 refine W_alloc (l := [.slice none 0 0, .int .i64 0, .slice none 0 0, .slice none 0 0, .slice none 0 0]) ty63 rfl rfl (fun b4 => ?_)
 refine W_assign rfl rfl ?_
 refine W_assign rfl rfl ?_
 refine W_nil (W_seq (W_sr ?_))
 refine W_move rfl rfl ?_
 refine W_callp (.cons rfl .nil) Tryz.call70 rfl (T := fun _ => True) trivial dis_pure ?_
 rcases Decidable.em (0 ≤ id ∧ id < 256) with hi | hi
 ·skip
  rw [decide_eq_true hi]
  obtain ⟨i, rfl⟩ : ∃ i : Nat, id = (i : Int) := ⟨id.toNat, by omega⟩
  obtain ⟨o, ho⟩ : ∃ o, As[i]? = some o := ⟨_, List.getElem?_eq_getElem zO⟩
  obtain ⟨q0, p0, eq0, hcx⟩ := Holds.row oneR_len zd hA0 ho
  refine W_not rfl rfl ?_
  refine W_nil ?_
  refine W_condF rfl rfl ?_
  refine W_skip (W_seq (W_sr ?_))
  refine W_fieldAddr rfl fld63_2 zd rfl ?_
  refine W_load (v := .slice ad3 (As).length cap3) rfl ty61 rfl (Cell.own (b := b2) zM rfl) rfl ?_
  refine W_move rfl rfl ?_
  refine W_indexAddr (b := q0) (o := p0) (j := i) (by rw [← eq0]; rfl) rfl ty61 ty78 rfl (by omega) rfl rfl ?_
  refine W_fieldAddr rfl fld78_0 zd rfl ?_
  refine W_load (v := .bool o.made) rfl ty4 rfl ((hcx 0 _ rfl).up ((show HSub _ H from zH).trans hHR)) rfl ?_
  refine W_not rfl rfl ?_
  refine W_nil ?_
  refine W_condPS (p := o.made = false) rfl (by simp) (fun c0 => ?_) (fun c0 => ?_)
  ·skip
   refine W_sr ?_
   refine W_loadB (vs := [.slice adb (S).length capb, .int .i64 (n : Int), .slice ad1 (Q).length cap1, .slice ad2 (Rs).length cap2, .slice ad3 (As).length cap3]) rfl ty63 rfl (b := b2) zM rfl rfl rfl ?_
   refine W_storeA (l' := [.slice adb (S).length capb, .int .i64 (n : Int), .slice ad1 (Q).length cap1, .slice ad2 (Rs).length cap2, .slice ad3 (As).length cap3]) rfl rfl ty63 rfl rfl (b := b4) zM (by exact Nat.le_refl 5) rfl zU ?_
   refine W_assign rfl rfl ?_
   refine W_assign rfl rfl ?_
   refine W_nil ?_
   refine W_ret3G (H2 := H) Tryz.results60 (.nil _) (.own rfl ty63 rfl zM rfl) (.tmp rfl) (.tmp rfl) zH ?_
   rw [stopR_at (by omega) ho, if_neg (by rw [c0]; decide)]
   exact ⟨_, [], rfl, ⟨adb, capb, Ds, ad1, cap1, ad2, cap2, ad3, cap3, rfl, hb, hc1, hc2, hQ0, hR0, hA0, hc3⟩, rfl⟩
  ·skip
   refine W_skip (W_sr ?_)
   refine W_loadB (vs := [.slice adb (S).length capb, .int .i64 (n : Int), .slice ad1 (Q).length cap1, .slice ad2 (Rs).length cap2, .slice ad3 (As).length cap3]) rfl ty63 rfl (b := b2) zM rfl rfl rfl ?_
   refine W_move rfl rfl ?_
   refine W_call (.cons rfl (.cons rfl .nil)) Tryz.call94 rfl (LCalls.hsub (dmTake_L (S := S) (Q := Q) (Rs := Rs) (As := As) (n := n) (id := (i : Int)) ⟨adb, capb, Ds, ad1, cap1, ad2, cap2, ad3, cap3, rfl, hb, hc1, hc2, hQ0, hR0, hA0, hc3⟩ ((show HSub _ H from zH).trans hHR) ⟨hS, hSn, hSl, hq, hrl, hA⟩ (H := (b2, .cells 63 5 [.slice adb (S).length capb, .int .i64 (n : Int), .slice ad1 (Q).length cap1, .slice ad2 (Rs).length cap2, .slice ad3 (As).length cap3]) :: (b4, .cells 63 5 [.slice none 0 0, .int .i64 0, .slice none 0 0, .slice none 0 0, .slice none 0 0]) :: H)) zH) ?_
   rintro v H' ⟨cs1, X1, rfl, ⟨ade, cape, Es, ad8, cap8, ad9, cap9, ad10, cap10, rfl, hbt, j1, j2, hQt, hRt, hAt, j3⟩, rfl⟩
   refine W_move rfl rfl ?_
   refine W_extract rfl rfl rfl ?_
   refine W_extract rfl rfl rfl ?_
   refine W_storeA (l' := [.slice ade (delOne S (i : Int)).length cape, .int .i64 (n : Int), .slice ad8 (delQ Q (i : Int)).length cap8, .slice ad9 (Rs).length cap9, .slice ad10 (As).length cap10]) rfl rfl ty63 rfl rfl (b := b2) zM (by exact Nat.le_refl 5) rfl zU ?_
   refine W_assign rfl rfl ?_
   refine W_nil (W_sr ?_)
   refine W_loadB (vs := [.slice ade (delOne S (i : Int)).length cape, .int .i64 (n : Int), .slice ad8 (delQ Q (i : Int)).length cap8, .slice ad9 (Rs).length cap9, .slice ad10 (As).length cap10]) rfl ty63 rfl (b := b2) zM rfl rfl rfl ?_
   refine W_move rfl rfl ?_
   refine W_storeA (l' := [.slice ade (delOne S (i : Int)).length cape, .int .i64 (n : Int), .slice ad8 (delQ Q (i : Int)).length cap8, .slice ad9 (Rs).length cap9, .slice ad10 (As).length cap10]) rfl rfl ty63 rfl rfl (b := b4) zM (by exact Nat.le_refl 5) rfl zU ?_
   refine W_assign rfl rfl ?_
   refine W_assign rfl rfl ?_
   refine W_nil ?_
   refine W_ret3G (H2 := X1 ++ H) Tryz.results60 (.nil _) (.own rfl ty63 rfl zM rfl) (.tmp rfl) (.tmp rfl) zH ?_
   rw [stopR_at (by omega) ho, if_pos (by cases h : o.made with | true => rfl | false => exact absurd h c0)]
   exact ⟨_, X1, rfl, ⟨ade, cape, Es, ad8, cap8, ad9, cap9, ad10, cap10, rfl, hbt, j1, j2, hQt, hRt, hAt, j3⟩, rfl⟩
 ·skip
  rw [decide_eq_false hi]
  refine W_not rfl rfl ?_
  refine W_nil ?_
  refine W_condT rfl rfl ?_
  refine W_sr ?_
  refine W_loadB (vs := [.slice adb (S).length capb, .int .i64 (n : Int), .slice ad1 (Q).length cap1, .slice ad2 (Rs).length cap2, .slice ad3 (As).length cap3]) rfl ty63 rfl (b := b2) zM rfl rfl rfl ?_
  refine W_storeA (l' := [.slice adb (S).length capb, .int .i64 (n : Int), .slice ad1 (Q).length cap1, .slice ad2 (Rs).length cap2, .slice ad3 (As).length cap3]) rfl rfl ty63 rfl rfl (b := b4) zM (by exact Nat.le_refl 5) rfl zU ?_
  refine W_assign rfl rfl ?_
  refine W_assign rfl rfl ?_
  refine W_nil ?_
  refine W_ret3G (H2 := H) Tryz.results60 (.nil _) (.own rfl ty63 rfl zM rfl) (.tmp rfl) (.tmp rfl) zH ?_
  rw [show stopR S Q As id = (S, Q, false, 2) from if_neg hi]
  exact ⟨_, [], rfl, ⟨adb, capb, Ds, ad1, cap1, ad2, cap2, ad3, cap3, rfl, hb, hc1, hc2, hQ0, hR0, hA0, hc3⟩, rfl⟩
end Go.Proofs.YtcmfldfeakmdoaaGreatDoor
