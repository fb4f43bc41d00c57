/-
  Own work: contracts of functions that the statement reaches, and plain facts on what they compute; each theorem says its conditions.
-/
import Derived.Test.YtcmfldfeakmdoaaGreatDoorTpT4
import Derived.Test.YtcmfldfeakmdoaaGreatDoorTpS2
import Derived.Test.YtcmfldfeakmdoaaGreatDoorTpS1
import Derived.Test.YtcmfldfeakmdoaaGreatDoorTpA
set_option linter.all false
set_option linter.unusedSimpArgs false
set_option linter.unusedVariables false
set_option maxHeartbeats 16000000
namespace Go.Proofs.YtcmfldfeakmdoaaGreatDoor
open Go Go.Sl
attribute [local irreducible] W
def tmC (t : Tm) : List Value := .int .i64 t.id :: t.s.v
abbrev rowT (L : List Tm) : List Value := L.flatMap tmC
theorem tmC_len (t : Tm) : (tmC t).length = 5 := rfl
theorem rowT_len (L : List Tm) : (rowT L).length = L.length * 5 := flat_length tmC_len L
theorem rowT_one (L : List Tm) : (rowT L).all Value.oneCell' = true := by
 rw [List.all_flatMap, List.all_eq_true]; exact fun t _ => rfl
theorem rowT_app (L M : List Tm) : rowT (L ++ M) = rowT L ++ rowT M := List.flatMap_append
theorem rowT_drop (L : List Tm) : ∀ k, (rowT L).drop (k * 5) = rowT (L.drop k) := by
 induction L with
 | nil => intro k; simp [rowT]
 | cons t L ih =>
  intro k
  cases k with
  | zero => rw [Nat.zero_mul]; rfl
  | succ k =>
   have e : rowT (t :: L) = tmC t ++ rowT L := rfl
   rw [e, List.drop_succ_cons, ← ih k, show (k + 1) * 5 = (tmC t).length + k * 5 by rw [tmC_len]; omega, List.drop_append]
   simp
theorem rowT_take (L : List Tm) (k : Nat) : (rowT L).take (k * 5) = rowT (L.take k) := Go.Sl.flat_take tmC_len L k
theorem delT_at : ∀ {L : List Tm} {i : Nat} {t : Tm}, (L.map (·.id)).Nodup → L[i]? = some t → delT L t.id = L.take i ++ L.drop (i + 1)
 | x :: L, 0, t, hn, h => by
  obtain rfl : x = t := by simpa using h
  rw [List.map_cons, List.nodup_cons] at hn
  show List.filter _ (x :: L) = L
  rw [List.filter_cons_of_neg (by simp)]
  exact delT_out hn.1
 | x :: L, i + 1, t, hn, h => by
  rw [List.map_cons, List.nodup_cons] at hn
  have ht : L[i]? = some t := by simpa using h
  have hne : x.id ≠ t.id := fun e => hn.1 (e ▸ List.mem_map_of_mem (List.mem_of_getElem? ht))
  show List.filter _ (x :: L) = _
  rw [List.filter_cons_of_pos (by simpa using hne)]
  have ih := delT_at hn.2 ht
  unfold delT at ih
  rw [ih]; rfl
def AtT (L : List Tm) (id z : Int) : Prop := (∃ (i : Nat) (t : Tm), z = (i : Int) ∧ L[i]? = some t ∧ t.id = id) ∨ (z = -1 ∧ id ∉ L.map (·.id))
theorem AtT.held {L : List Tm} {id z : Int} (h : AtT L id z) : (0 ≤ z ↔ id ∈ L.map (·.id)) := by
 rcases h with ⟨i, t, rfl, h1, rfl⟩ | ⟨rfl, h1⟩
 ·exact ⟨fun _ => List.mem_map_of_mem (List.mem_of_getElem? h1), fun _ => by omega⟩
 ·exact ⟨fun h => by omega, fun h => absurd h h1⟩
theorem rFind_L {w0 : World} {H : Heap} {now cap : Nat} {L : List Tm} {ad : Option Addr} (hl : L.length ≤ 1000000) (hrow : Holds w0 H ad (rowT L)) {id : Int}  : LCalls Tryz.prog w0 32 #[.agg (List.toArray [.int .u64 ((now : Nat) : Int), .slice ad L.length cap]), .int .i64 id] (H) (fun v H' => ∃ z : Int, v = .int .i64 z ∧ AtT L id z ∧ H' = H) := by
 refine L_enter (l := [.agg (List.toArray [.int .u64 ((now : Nat) : Int), .slice ad L.length cap]), .int .i64 id]) Tryz.func32 rfl Tryz.ntmps32 rfl rfl ?_
 refine W_sr ?_
 refine W_box (l := [.int .u64 ((now : Nat) : Int), .slice ad L.length cap]) rfl rfl rfl (fun b2 => ?_)
 refine W_assign rfl rfl ?_
 refine W_nil (W_seq (W_sr ?_))
 refine W_assign rfl rfl ?_
 refine W_nil (W_block ?_)
 refine W_loopC (X := Nat) [(1, _), (2, _)] (fun (i : Nat) => [(5, .int .i64 (i : Int))]) (fun _ => _) (fun (i : Nat) => (b2, .cells 76 2 [.int .u64 ((now : Nat) : Int), .slice ad L.length cap]) :: H) (fun (i : Nat) => i ≤ L.length ∧ id ∉ (L.take i).map (·.id)) (fun (i : Nat) => L.length - i) 0 ⟨Nat.zero_le _, by simp⟩ (sub_cons rfl (sub_cons rfl (sub_nil _))) (sub_cons rfl (sub_nil _)) rfl zH ?_
 rintro i ⟨hi, hn⟩
 simp only [List.cons_append, List.nil_append]
 refine W_seq (W_sr ?_)
 refine W_move rfl rfl ?_
 refine W_fieldAddr rfl fld76_1 zd rfl ?_
 refine W_load rfl ty74 rfl (Cell.own zM rfl) rfl ?_
 refine W_len rfl ty74 rfl rfl ?_
 refine W_bin rfl rfl b_lss rfl ?_
 refine W_nil ?_
 refine W_condPS (p := (i : Int) < (L.length : Int)) rfl (by simp) (fun q0 => ?_) (fun q0 => ?_)
 ·skip
  refine W_skip (W_seq ?_)
  refine W_block (W_sr ?_)
  obtain ⟨t, ht⟩ : ∃ t, L[i]? = some t := ⟨_, List.getElem?_eq_getElem zO⟩
  obtain ⟨q0_, p0_, rfl, hc⟩ := Holds.row tmC_len zd hrow ht
  refine W_fieldAddr rfl fld76_1 zd rfl ?_
  refine W_load rfl ty74 rfl (Cell.own zM rfl) rfl ?_
  refine W_move rfl rfl ?_
  refine W_indexAddr (j := i) rfl rfl ty74 ty73 rfl zO rfl rfl ?_
  refine W_fieldAddr rfl fld73_0 zd rfl ?_
  refine W_load (v := .int .i64 t.id) rfl ty3 rfl ((hc 0 (.int .i64 t.id) rfl).up zH) rfl ?_
  refine W_move rfl rfl ?_
  refine W_bin rfl rfl b_eql rfl ?_
  refine W_nil ?_
  refine W_condPS (p := t.id = id) rfl (by simp) (fun q1 => ?_) (fun q1 => ?_)
  ·skip
   refine W_sr ?_
   refine W_move rfl rfl ?_
   refine W_assign rfl rfl ?_
   refine W_nil ?_
   refine W_ret1m (H2 := H) Tryz.results32 rfl (.nil _) zH ?_
   exact ⟨i, rfl, .inl ⟨i, t, rfl, ht, q1⟩, rfl⟩
  ·skip
   refine W_skip ?_
   refine W_blk ?_
   refine W_region ?_
   refine W_move rfl rfl ?_
   refine W_bin rfl rfl (b_add (m := ((i + 1 : Nat) : Int)) ((i64w zO).trans zO)) rfl ?_
   refine W_assign rfl rfl ?_
   refine W_nil ?_
   refine W_again (i + 1) ⟨by omega, by rw [takeAt ht, List.map_append, List.mem_append]; exact fun h => h.elim hn (fun h => q1 (List.mem_singleton.1 h).symm)⟩ (by omega) (sub_cons rfl (sub_cons rfl (sub_cons rfl (sub_nil _)))) rfl zH
 ·skip
  refine W_exit rfl ?_
  refine W_sr ?_
  refine W_assign rfl rfl ?_
  refine W_nil ?_
  refine W_ret1m (H2 := H) Tryz.results32 rfl (.nil _) zH ?_
  obtain rfl : i = L.length := by omega
  exact ⟨-1, rfl, .inr ⟨rfl, by rwa [List.take_length] at hn⟩, rfl⟩
def BestT (L : List Tm) (z : Int) : Prop := (z = -1 ∧ L = []) ∨ ∃ (i : Nat) (t : Tm), z = (i : Int) ∧ L[i]? = some t ∧ (∀ u ∈ L, t.s.due ≤ u.s.due) ∧ ∀ (j : Nat) u, j < i → L[j]? = some u → t.s.due < u.s.due
def bestV (i b : Nat) : Int := if i = 0 then -1 else (b : Int)
def BestI (L : List Tm) (i b : Nat) : Prop := i = 0 ∨ (b < i ∧ ∃ t, L[b]? = some t ∧ ∀ (j : Nat) u, j < i → L[j]? = some u → t.s.due ≤ u.s.due ∧ (j < b → t.s.due < u.s.due))
theorem BestI.done {L : List Tm} {b : Nat} (h : BestI L L.length b) : BestT L (bestV L.length b) := by
 rcases h with h | ⟨h1, t, h2, h3⟩
 ·exact .inl ⟨if_pos h, List.eq_nil_of_length_eq_zero h⟩
 ·refine .inr ⟨b, t, if_neg zO, h2, fun u hu => ?_, fun j u hj hu => (h3 j u zO hu).2 hj⟩
  obtain ⟨j, hj, e⟩ := List.getElem_of_mem hu
  exact (h3 j u hj (by rw [List.getElem?_eq_getElem hj, e])).1
theorem BestI.first {L : List Tm} {t : Tm} (h : L[0]? = some t) : BestI L 1 0 := .inr ⟨by omega, t, h, fun j u hj hu => by
 obtain rfl : j = 0 := by omega
 rw [h] at hu
 obtain rfl := Option.some.inj hu
 exact ⟨Nat.le_refl _, fun h => by omega⟩⟩
theorem BestI.keep {L : List Tm} {i b : Nat} {t u : Tm} (h : BestI L i b) (h0 : i ≠ 0) (hb : L[b]? = some t) (hi : L[i]? = some u) (hc : ¬ u.s.due < t.s.due) : BestI L (i + 1) b := by
 rcases h with h | ⟨h1, t', h2, h3⟩
 ·exact absurd h h0
 ·obtain rfl : t = t' := Option.some.inj (hb.symm.trans h2)
  refine .inr ⟨by omega, t, h2, fun j x hj hx => ?_⟩
  by_cases e : j = i
  ·subst e
   rw [hi] at hx
   obtain rfl := Option.some.inj hx
   exact ⟨by omega, fun h => by omega⟩
  ·exact h3 j x zO hx
theorem BestI.turn {L : List Tm} {i b : Nat} {t u : Tm} (h : BestI L i b) (h0 : i ≠ 0) (hb : L[b]? = some t) (hi : L[i]? = some u) (hc : u.s.due < t.s.due) : BestI L (i + 1) i := by
 rcases h with h | ⟨h1, t', h2, h3⟩
 ·exact absurd h h0
 ·obtain rfl : t = t' := Option.some.inj (hb.symm.trans h2)
  refine .inr ⟨by omega, u, hi, fun j x hj hx => ?_⟩
  by_cases e : j = i
  ·subst e
   rw [hi] at hx
   obtain rfl := Option.some.inj hx
   exact ⟨Nat.le_refl _, fun h => by omega⟩
  ·have := (h3 j x zO hx).1
   exact ⟨by omega, fun _ => by omega⟩
theorem rNext_L {w0 : World} {H : Heap} {now cap : Nat} {L : List Tm} {ad : Option Addr} (hl : L.length ≤ 1000000) (hrow : Holds w0 H ad (rowT L))  : LCalls Tryz.prog w0 133 #[.agg (List.toArray [.int .u64 ((now : Nat) : Int), .slice ad L.length cap])] (H) (fun v H' => ∃ z : Int, v = .int .i64 z ∧ BestT L z ∧ H' = H) := by
 refine L_enter (l := [.agg (List.toArray [.int .u64 ((now : Nat) : Int), .slice ad L.length cap])]) Tryz.func133 rfl Tryz.ntmps133 rfl rfl ?_
 refine W_sr ?_
 refine W_box (l := [.int .u64 ((now : Nat) : Int), .slice ad L.length cap]) rfl rfl rfl (fun b1 => ?_)
 refine W_assign rfl rfl ?_
 refine W_nil (W_sr ?_)
 refine W_assign rfl rfl ?_
 refine W_nil (W_seq (W_sr ?_))
 refine W_assign rfl rfl ?_
 refine W_nil (W_block ?_)
 refine W_loopC (X := (Nat × Nat)) [(1, _)] (fun (x : (Nat × Nat)) => [(3, .int .i64 (bestV x.1 x.2)), (4, .int .i64 (x.1 : Int))]) (fun _ => _) (fun (x : (Nat × Nat)) => (b1, .cells 76 2 [.int .u64 ((now : Nat) : Int), .slice ad L.length cap]) :: H) (fun (x : (Nat × Nat)) => x.1 ≤ L.length ∧ BestI L x.1 x.2) (fun (x : (Nat × Nat)) => L.length - x.1) (0, 0) ⟨Nat.zero_le _, .inl rfl⟩ (sub_cons rfl (sub_nil _)) (sub_cons rfl (sub_cons rfl (sub_nil _))) rfl zH ?_
 rintro ⟨i, b⟩ ⟨hi, hB⟩
 dsimp only at hi hB ⊢
 simp only [List.cons_append, List.nil_append]
 refine W_seq (W_sr ?_)
 refine W_move rfl rfl ?_
 refine W_fieldAddr rfl fld76_1 zd rfl ?_
 refine W_load rfl ty74 rfl (Cell.own zM rfl) rfl ?_
 refine W_len rfl ty74 rfl rfl ?_
 refine W_bin rfl rfl b_lss rfl ?_
 refine W_nil ?_
 refine W_condPS (p := (i : Int) < (L.length : Int)) rfl (by simp) (fun q0 => ?_) (fun q0 => ?_)
 ·skip
  refine W_skip (W_seq ?_)
  refine W_block (W_seq ?_)
  obtain ⟨t, ht⟩ : ∃ t, L[i]? = some t := ⟨_, List.getElem?_eq_getElem zO⟩
  obtain ⟨q0_, p0_, rfl, hc⟩ := Holds.row tmC_len zd hrow ht
  by_cases hi0 : i = 0
  ·skip
   rw [show bestV i b = -1 from if_pos hi0]
   refine W_quiet zk zK ?_
   refine WQ_x (X_move rfl) rfl ?_
   refine WQ_x (X_bin rfl rfl b_lss) rfl ?_
   first | rw [decide_eq_false (by omega)] | rw [decide_eq_true (by omega)]
   refine WQ_x (X_move rfl) rfl ?_
   refine WQ_gno rfl rfl rfl rfl ?_
   refine WQ_gno rfl rfl rfl rfl ?_
   refine WQ_gno rfl rfl rfl rfl ?_
   refine WQ_gno rfl rfl rfl rfl ?_
   refine WQ_gno rfl rfl rfl rfl ?_
   refine WQ_gno rfl rfl rfl rfl ?_
   refine WQ_gno rfl rfl rfl rfl ?_
   refine WQ_gno rfl rfl rfl rfl ?_
   refine WQ_gno rfl rfl rfl rfl ?_
   refine WQ_gno rfl rfl rfl rfl ?_
   refine WQ_gno rfl rfl rfl rfl ?_
   refine WQ_gno rfl rfl rfl rfl ?_
   refine WQ_gno rfl rfl rfl rfl ?_
   refine WQ_gno rfl rfl rfl rfl ?_
   refine WQ_gno rfl rfl rfl rfl ?_
   first | refine WQ_x (X_pickt rfl rfl) rfl ?_ | refine WQ_x (X_pickf rfl rfl) rfl ?_
   refine WQ_nil ?_
   refine W_condT rfl rfl ?_
   refine W_region ?_
   refine W_move rfl rfl ?_
   refine W_assign rfl rfl ?_
   refine W_nil ?_
   refine W_blk ?_
   refine W_region ?_
   rw [show ((i : Nat) : Int) = 0 from by omega]
   refine W_move rfl rfl ?_
   refine W_bin rfl rfl (b_add (m := ((1 : Nat) : Int)) (by rw [i64w (by omega)]; omega)) rfl ?_
   refine W_assign rfl rfl ?_
   refine W_nil ?_
   refine W_again (1, 0) ⟨by show 1 ≤ L.length; omega, .first (by rw [← hi0]; exact ht)⟩ (by show L.length - 1 < L.length - i; omega) (sub_cons rfl (sub_cons rfl (sub_cons rfl (sub_nil _)))) rfl zH
  ·skip
   rw [show bestV i b = (b : Int) from if_neg hi0]
   obtain ⟨hbi, tb', htb', _⟩ := hB.resolve_left hi0
   obtain ⟨tb, htb⟩ : ∃ tb, L[b]? = some tb := ⟨_, List.getElem?_eq_getElem zO⟩
   obtain ⟨q1_, p1_, ee, hcb⟩ := Holds.row tmC_len zd hrow htb
   cases ee
   refine W_quiet zk zK ?_
   refine WQ_x (X_move rfl) rfl ?_
   refine WQ_x (X_bin rfl rfl b_lss) rfl ?_
   first | rw [decide_eq_false (by omega)] | rw [decide_eq_true (by omega)]
   refine WQ_x (X_move rfl) rfl ?_
   refine WQ_gyes rfl rfl ?_
   refine WQ_x (X_fieldAddr rfl fld76_1 zd) rfl ?_
   refine WQ_gyes rfl rfl ?_
   refine WQ_x (X_load rfl ty74 rfl (Cell.own zM rfl)) rfl ?_
   refine WQ_gyes rfl rfl ?_
   refine WQ_x (X_move rfl) rfl ?_
   refine WQ_gyes rfl rfl ?_
   refine WQ_x (X_indexAddr (j := i) rfl rfl ty74 ty73 rfl zO rfl) rfl ?_
   refine WQ_gyes rfl rfl ?_
   refine WQ_x (X_fieldAddr rfl fld73_1 zd) rfl ?_
   refine WQ_gyes rfl rfl ?_
   refine WQ_x (X_fieldAddr rfl fld70_3 zd) rfl ?_
   refine WQ_gyes rfl rfl ?_
   refine WQ_x (X_load (v := .int .u64 (t.s.due : Int)) rfl ty22 rfl ((hc 4 (.int .u64 (t.s.due : Int)) rfl).up zH)) rfl ?_
   refine WQ_gyes rfl rfl ?_
   refine WQ_x (X_fieldAddr rfl fld76_1 zd) rfl ?_
   refine WQ_gyes rfl rfl ?_
   refine WQ_x (X_load rfl ty74 rfl (Cell.own zM rfl)) rfl ?_
   refine WQ_gyes rfl rfl ?_
   refine WQ_x (X_move rfl) rfl ?_
   refine WQ_gyes rfl rfl ?_
   refine WQ_x (X_indexAddr (j := b) rfl rfl ty74 ty73 rfl zO rfl) rfl ?_
   refine WQ_gyes rfl rfl ?_
   refine WQ_x (X_fieldAddr rfl fld73_1 zd) rfl ?_
   refine WQ_gyes rfl rfl ?_
   refine WQ_x (X_fieldAddr rfl fld70_3 zd) rfl ?_
   refine WQ_gyes rfl rfl ?_
   refine WQ_x (X_load (v := .int .u64 (tb.s.due : Int)) rfl ty22 rfl ((hcb 4 (.int .u64 (tb.s.due : Int)) rfl).up zH)) rfl ?_
   refine WQ_gyes rfl rfl ?_
   refine WQ_x (X_bin rfl rfl b_lss) rfl ?_
   first | refine WQ_x (X_pickt rfl rfl) rfl ?_ | refine WQ_x (X_pickf rfl rfl) rfl ?_
   refine WQ_nil ?_
   refine W_condPS (p := t.s.due < tb.s.due) rfl (by rw [decide_eq_true_eq]; exact Int.ofNat_lt) (fun q1 => ?_) (fun q1 => ?_)
   ·skip
    refine W_region ?_
    refine W_move rfl rfl ?_
    refine W_assign rfl rfl ?_
    refine W_nil ?_
    refine W_blk ?_
    refine W_region ?_
    refine W_move rfl rfl ?_
    refine W_bin rfl rfl (b_add (m := ((i + 1 : Nat) : Int)) ((i64w zO).trans zO)) rfl ?_
    refine W_assign rfl rfl ?_
    refine W_nil ?_
    refine W_again (i + 1, i) ⟨by show i + 1 ≤ L.length; omega, hB.turn hi0 htb ht q1⟩ (by show L.length - (i + 1) < L.length - i; omega) (sub_cons rfl (sub_cons rfl (sub_cons rfl (sub_nil _)))) rfl zH
   ·skip
    refine W_skip ?_
    refine W_blk ?_
    refine W_region ?_
    refine W_move rfl rfl ?_
    refine W_bin rfl rfl (b_add (m := ((i + 1 : Nat) : Int)) ((i64w zO).trans zO)) rfl ?_
    refine W_assign rfl rfl ?_
    refine W_nil ?_
    refine W_again (i + 1, b) ⟨by show i + 1 ≤ L.length; omega, hB.keep hi0 htb ht q1⟩ (by show L.length - (i + 1) < L.length - i; omega) (sub_cons rfl (sub_cons rfl (sub_cons rfl (sub_nil _)))) rfl zH
 ·skip
  refine W_exit rfl ?_
  refine W_sr ?_
  refine W_move rfl rfl ?_
  refine W_assign rfl rfl ?_
  refine W_nil ?_
  refine W_ret1m (H2 := H) Tryz.results133 rfl (.nil _) zH ?_
  obtain rfl : i = L.length := by omega
  exact ⟨_, rfl, hB.done, rfl⟩
theorem rPut_late {w0 : World} {H : Heap} {cap : Nat} {L : List Tm} {ad : Option Addr} (hl : L.length ≤ 1000000) (hrow : Holds w0 H ad (rowT L)) {id : Int} {a : Nat} (hid : 0 ≤ id ∧ id < 256) (ha : a ≤ 18446744073709551615) (hin : id ∉ L.map (·.id))  : PureAt Tryz.prog w0 H 114 [.agg (List.toArray [.int .u64 ((18446744073709551615 : Nat) : Int), .slice ad L.length cap]), .int .i64 id, .int .u64 ((a : Nat) : Int)] (.tuple #[.agg (List.toArray [.int .u64 ((18446744073709551615 : Nat) : Int), .slice ad L.length cap]), .agg (zSpot.v).toArray, .int .i64 12]) := by
 refine L_enter Tryz.func114 rfl Tryz.ntmps114 rfl rfl ?_
 refine W_sr ?_
 refine W_box (l := [.int .u64 ((18446744073709551615 : Nat) : Int), .slice ad L.length cap]) rfl rfl rfl (fun b3 => ?_)
 refine W_alloc (l := [.int .u64 0, .slice none 0 0]) ty76 rfl rfl (fun b6 => ?_)
 refine W_alloc (l := zSpot.v) ty70 rfl rfl (fun b7 => ?_)
 refine W_assign rfl rfl ?_
 refine W_nil (W_seq (W_sr ?_))
 refine W_move rfl rfl ?_
 refine W_bin rfl rfl b_lss rfl ?_
 refine W_move rfl rfl ?_
 apply W_or
 iterate 4 exact rfl
 case h1 =>
  intro hg2
  refine W_gyes rfl rfl ?_
  refine W_move rfl rfl ?_
  refine W_gyes rfl rfl ?_
  refine W_bin rfl rfl b_gtr rfl ?_
  exact W_met rfl zR
 refine W_nil ?_
 refine W_condF rfl (by simp; omega) ?_
 refine W_skip (W_seq (W_sr ?_))
 refine W_loadB (vs := [.int .u64 ((18446744073709551615 : Nat) : Int), .slice ad L.length cap]) rfl ty76 rfl (b := b3) zM rfl rfl rfl ?_
 refine W_move rfl rfl ?_
 refine W_call (.cons rfl (.cons rfl .nil)) Tryz.call32 rfl ((rFind_L (now := 18446744073709551615) (cap := cap) (id := id) hl (hrow.up zH)).hsub (.refl _)) ?_
 rintro v H' ⟨z, rfl, hz, rfl⟩
 have hzz := hz.held
 refine W_bin rfl rfl b_geq rfl ?_
 refine W_nil ?_
 refine W_condF rfl (by rw [decide_eq_false_iff_not]; exact fun h => hin (hzz.1 h)) ?_
 refine W_skip (W_sr ?_)
 refine W_fieldAddr rfl fld76_0 zd rfl ?_
 refine W_load rfl ty22 rfl (Cell.own zM rfl) rfl ?_
 refine W_move rfl rfl ?_
 refine W_callp (.cons rfl (.cons rfl .nil)) Tryz.call132 rfl (T := fun _ => True) trivial (rPlace_pure (a := 18446744073709551615) (b := a) (Nat.le_refl _) ha) ?_
 rw [show placeT 18446744073709551615 a = (zSpot, 12) from if_pos rfl]
 refine W_move rfl rfl ?_
 refine W_extract rfl rfl rfl ?_
 refine W_extract rfl rfl rfl ?_
 refine W_alloc (l := zSpot.v) ty70 rfl rfl (fun b9 => ?_)
 refine W_storeA (l' := zSpot.v) rfl rfl ty70 rfl rfl (b := b9) zM (by exact Nat.le_refl 4) rfl zU ?_
 refine W_assign rfl rfl ?_
 refine W_nil (W_seq (W_sr ?_))
 refine W_move rfl rfl ?_
 refine W_bin rfl rfl b_neq rfl ?_
 refine W_nil ?_
 refine W_condT rfl rfl ?_
 refine W_seq ?_
 refine W_anyC [(b3, .cells 76 2 [.int .u64 ((18446744073709551615 : Nat) : Int), .slice ad L.length cap]), (b9, .cells 70 4 zSpot.v)] zk ?_
 refine WC_take 0 (l' := #[true, false, false, false, false, false]) rfl zK zK zK rfl zK (X_loadB (vs := [.int .u64 ((18446744073709551615 : Nat) : Int), .slice ad L.length cap]) rfl ty76 rfl (b := b3) zM rfl rfl) rfl ?_
 refine WC_take 1 (l' := #[true, true, false, false, false, false]) rfl zK zK zK rfl zK (X_loadB (vs := zSpot.v) rfl ty70 rfl (b := b9) zM rfl rfl) rfl ?_
 refine WC_take 2 (l' := #[true, true, true, false, false, false]) rfl zK zK zK rfl zK (X_move rfl) rfl ?_
 refine WC_one 3 (l' := #[true, true, true, true, false, false]) zH zK rfl zK ?_
 refine W_storeA (l' := [.int .u64 ((18446744073709551615 : Nat) : Int), .slice ad L.length cap]) rfl rfl ty76 rfl rfl (b := b6) zM (by exact Nat.le_refl 2) rfl zU ?_
 refine W_nil ?_
 refine WC_goal ?_
 refine WC_one 4 (l' := #[true, true, true, true, true, false]) zH zK rfl zK ?_
 refine W_storeA (l' := zSpot.v) rfl rfl ty70 rfl rfl (b := b7) zM (by exact Nat.le_refl 4) rfl zU ?_
 refine W_nil ?_
 refine WC_goal ?_
 refine WC_take 5 (l' := #[true, true, true, true, true, true]) rfl zK zK zK rfl zK (X_assign rfl) rfl ?_
 refine WC_done zH zK ?_
 refine W_ret3G (H2 := H) Tryz.results114 (.nil _) (.own rfl ty76 rfl zM rfl) (.own rfl ty70 rfl zM rfl) (.tmp rfl) zH ?_
 exact ⟨rfl, rfl⟩
theorem rPut_ok {w0 : World} {H : Heap} {now cap : Nat} {L : List Tm} {ad : Option Addr} (hl : L.length ≤ 1000000) (hrow : Holds w0 H ad (rowT L)) {id : Int} {a tn : Nat} {e : Spot} (hid : 0 ≤ id ∧ id < 256) (hnow : now ≤ 18446744073709551615) (ha : a ≤ 18446744073709551615) (hin : id ∉ L.map (·.id)) (he : placeT now a = (e, 0))  : LCalls Tryz.prog w0 114 #[.agg (List.toArray [.int .u64 ((now : Nat) : Int), .slice ad L.length cap]), .int .i64 id, .int .u64 ((a : Nat) : Int)] (H) (fun v H' => ∃ sv XB, v = .tuple #[.agg (List.toArray [.int .u64 ((now : Nat) : Int), sv]), .agg e.v.toArray, .int .i64 0] ∧ OwnS 73 5 sv (L ++ [(⟨id, e, tn⟩ : Tm)]).length (rowT (L ++ [(⟨id, e, tn⟩ : Tm)])) XB ∧ H' = XB ++ H) := by
 refine L_enter (l := [.agg (List.toArray [.int .u64 ((now : Nat) : Int), .slice ad L.length cap]), .int .i64 id, .int .u64 ((a : Nat) : Int)]) Tryz.func114 rfl Tryz.ntmps114 rfl rfl ?_
 refine W_sr ?_
 refine W_box (l := [.int .u64 ((now : Nat) : Int), .slice ad L.length cap]) rfl rfl rfl (fun b3 => ?_)
 refine W_alloc (l := [.int .u64 0, .slice none 0 0]) ty76 rfl rfl (fun b6 => ?_)
 refine W_alloc (l := zSpot.v) ty70 rfl rfl (fun b7 => ?_)
 refine W_assign rfl rfl ?_
 refine W_nil (W_seq (W_sr ?_))
 refine W_move rfl rfl ?_
 refine W_bin rfl rfl b_lss rfl ?_
 refine W_move rfl rfl ?_
 apply W_or
 iterate 4 exact rfl
 case h1 =>
  intro hg2
  refine W_gyes rfl rfl ?_
  refine W_move rfl rfl ?_
  refine W_gyes rfl rfl ?_
  refine W_bin rfl rfl b_gtr rfl ?_
  exact W_met rfl zR
 refine W_nil ?_
 refine W_condF rfl (by simp; omega) ?_
 refine W_skip (W_seq (W_sr ?_))
 refine W_loadB (vs := [.int .u64 ((now : Nat) : Int), .slice ad L.length cap]) rfl ty76 rfl (b := b3) zM rfl rfl rfl ?_
 refine W_move rfl rfl ?_
 refine W_call (.cons rfl (.cons rfl .nil)) Tryz.call32 rfl ((rFind_L (now := now) (cap := cap) (id := id) hl (hrow.up zH)).hsub (.refl _)) ?_
 rintro v H' ⟨z, rfl, hz, rfl⟩
 have hzz := hz.held
 refine W_bin rfl rfl b_geq rfl ?_
 refine W_nil ?_
 refine W_condF rfl (by rw [decide_eq_false_iff_not]; exact fun h => hin (hzz.1 h)) ?_
 refine W_skip (W_sr ?_)
 refine W_fieldAddr rfl fld76_0 zd rfl ?_
 refine W_load rfl ty22 rfl (Cell.own zM rfl) rfl ?_
 refine W_move rfl rfl ?_
 refine W_callp (.cons rfl (.cons rfl .nil)) Tryz.call132 rfl (T := fun _ => True) trivial (rPlace_pure (a := now) (b := a) hnow ha) ?_
 rw [he]
 refine W_move rfl rfl ?_
 refine W_extract rfl rfl rfl ?_
 refine W_extract rfl rfl rfl ?_
 refine W_alloc (l := zSpot.v) ty70 rfl rfl (fun b9 => ?_)
 refine W_storeA (l' := e.v) rfl rfl ty70 rfl rfl (b := b9) zM (by exact Nat.le_refl 4) rfl zU ?_
 refine W_assign rfl rfl ?_
 refine W_nil (W_seq (W_sr ?_))
 refine W_move rfl rfl ?_
 refine W_bin rfl rfl b_neq rfl ?_
 refine W_nil ?_
 refine W_condF rfl rfl ?_
 refine W_skip (W_sr ?_)
 refine W_buildSlice (l := []) ty74 ty73 .nil rfl rfl rfl rfl rfl rfl rfl (fun b38 => ?_)
 refine W_fieldAddr rfl fld76_1 zd rfl ?_
 refine W_load rfl ty74 rfl (Cell.own zM rfl) rfl ?_
 refine W_append (news := rowT L) (m := L.length) (HB := [(b38, .cells 73 0 [])]) (H0 := (b9, .cells 70 4 e.v) :: (b7, .cells 70 4 zSpot.v) :: (b6, .cells 76 2 [.int .u64 0, .slice none 0 0]) :: (b3, .cells 76 2 [.int .u64 ((now : Nat) : Int), .slice ad L.length cap]) :: H) rfl rfl ty74 ty73 rfl (by decide) (OwnS.own (n := 0) (cap := 0) (xs := []) rfl (Nat.le_refl _) (Nat.zero_le _)) (rowT_len L) (hrow.up zH) (rowT_one L) (by simp only [maxLen]; omega) (by omega) (.refl _) rfl (fun v1 X1 hO1 => ?_)
 refine W_assign rfl rfl ?_
 refine W_nil (W_seq ?_)
 refine W_anyC [(b3, .cells 76 2 [.int .u64 ((now : Nat) : Int), .slice ad L.length cap]), (b9, .cells 70 4 e.v)] zk ?_
 refine WC_take 0 (l' := #[true, false, false, false, false, false, false, false, false, false, false, false, false]) rfl zK zK zK rfl zK (X_fieldAddr rfl fld76_0 zd) rfl ?_
 refine WC_take 1 (l' := #[true, true, false, false, false, false, false, false, false, false, false, false, false]) rfl zK zK zK rfl zK (X_load rfl ty22 rfl (Cell.own zM rfl)) rfl ?_
 refine WC_take 2 (l' := #[true, true, true, false, false, false, false, false, false, false, false, false, false]) rfl zK zK zK rfl zK (X_move rfl) rfl ?_
 refine WC_take 3 (l' := #[true, true, true, true, false, false, false, false, false, false, false, false, false]) rfl zK zK zK rfl zK (X_move rfl) rfl ?_
 refine WC_take 4 (l' := #[true, true, true, true, true, false, false, false, false, false, false, false, false]) rfl zK zK zK rfl zK (X_loadB (vs := e.v) rfl ty70 rfl (b := b9) zM rfl rfl) rfl ?_
 refine WC_take 5 (l' := #[true, true, true, true, true, true, false, false, false, false, false, false, false]) rfl zK zK zK rfl zK (X_build (l := tmC (⟨id, e, tn⟩ : Tm)) ty73 pl73 (.cons rfl rfl rfl rfl rfl (.cons rfl rfl rfl rfl rfl .nil)) rfl rfl) rfl ?_
 refine WC_take 9 (l' := #[true, true, true, true, true, true, false, false, false, true, false, false, false]) rfl zK zK zK rfl zK (X_loadB (vs := e.v) rfl ty70 rfl (b := b9) zM rfl rfl) rfl ?_
 refine WC_one 6 (l' := #[true, true, true, true, true, true, true, false, false, true, false, false, false]) zH zK rfl zK ?_
 refine W_buildSlice (l := tmC (⟨id, e, tn⟩ : Tm)) ty74 ty73 (.cons rfl rfl rfl rfl rfl .nil) rfl rfl rfl rfl rfl rfl rfl (fun b48 => ?_)
 refine W_nil ?_
 refine WC_goal ?_
 refine WC_one 7 (l' := #[true, true, true, true, true, true, true, true, false, true, false, false, false]) zH zK rfl zK ?_
 refine W_append (news := tmC (⟨id, e, tn⟩ : Tm)) (m := 1) (HB := X1) (H0 := (b48, .cells 73 5 (tmC (⟨id, e, tn⟩ : Tm))) :: (b9, .cells 70 4 e.v) :: (b7, .cells 70 4 zSpot.v) :: (b6, .cells 76 2 [.int .u64 0, .slice none 0 0]) :: (b3, .cells 76 2 [.int .u64 ((now : Nat) : Int), .slice ad L.length cap]) :: H) rfl rfl ty74 ty73 rfl (by decide) hO1 rfl (Holds.own zM) rfl (by simp only [maxLen]; omega) (by omega) zH rfl (fun v2 X2 hO2 => ?_)
 obtain ⟨ad2, cap2, rfl, _, _⟩ := hO2.shape
 refine W_nil ?_
 refine WC_goal ?_
 refine WC_take 8 (l' := #[true, true, true, true, true, true, true, true, true, true, false, false, false]) rfl zK zK zK rfl zK (X_build (l := [.int .u64 ((now : Nat) : Int), .slice ad2 (0 + L.length + 1) cap2]) ty76 pl76 (.cons rfl rfl rfl rfl rfl (.cons rfl rfl rfl rfl rfl .nil)) rfl rfl) rfl ?_
 refine WC_one 10 (l' := #[true, true, true, true, true, true, true, true, true, true, true, false, false]) zH zK rfl zK ?_
 refine W_storeA (l' := [.int .u64 ((now : Nat) : Int), .slice ad2 (0 + L.length + 1) cap2]) rfl rfl ty76 rfl rfl (b := b6) zM (by exact Nat.le_refl 2) rfl zU ?_
 refine W_nil ?_
 refine WC_goal ?_
 refine WC_one 11 (l' := #[true, true, true, true, true, true, true, true, true, true, true, true, false]) zH zK rfl zK ?_
 refine W_storeA (l' := e.v) rfl rfl ty70 rfl rfl (b := b7) zM (by exact Nat.le_refl 4) rfl zU ?_
 refine W_nil ?_
 refine WC_goal ?_
 refine WC_take 12 (l' := #[true, true, true, true, true, true, true, true, true, true, true, true, true]) rfl zK zK zK rfl zK (X_assign rfl) rfl ?_
 refine WC_done zH zK ?_
 refine W_ret3G (H2 := X2 ++ H) Tryz.results114 (.nil _) (.own rfl ty76 rfl zM rfl) (.own rfl ty70 rfl zM rfl) (.tmp rfl) zH ?_
 exact ⟨_, X2, rfl, by rw [rowT_app, List.length_append]; simp only [Nat.zero_add, List.nil_append] at hO2 ⊢; exact hO2, rfl⟩
theorem rDel_hit {w0 : World} {H : Heap} {now cap : Nat} {L : List Tm} {ad : Option Addr} (hl : L.length ≤ 1000000) (hrow : Holds w0 H ad (rowT L)) {t : Tm} (hcap : L.length ≤ cap) (hn : (L.map (·.id)).Nodup) (hin : t ∈ L)  : LCalls Tryz.prog w0 131 #[.agg (List.toArray [.int .u64 ((now : Nat) : Int), .slice ad L.length cap]), .int .i64 t.id] (H) (fun v H' => ∃ sv XB, v = .tuple #[.agg (List.toArray [.int .u64 ((now : Nat) : Int), sv]), .bool true] ∧ OwnS 73 5 sv (delT L t.id).length (rowT (delT L t.id)) XB ∧ H' = XB ++ H) := by
 refine L_enter (l := [.agg (List.toArray [.int .u64 ((now : Nat) : Int), .slice ad L.length cap]), .int .i64 t.id]) Tryz.func131 rfl Tryz.ntmps131 rfl rfl ?_
 refine W_sr ?_
 refine W_box (l := [.int .u64 ((now : Nat) : Int), .slice ad L.length cap]) rfl rfl rfl (fun b2 => ?_)
 refine W_alloc (l := [.int .u64 0, .slice none 0 0]) ty76 rfl rfl (fun b4 => ?_)
 refine W_assign rfl rfl ?_
 refine W_nil (W_sr ?_)
 refine W_loadB (vs := [.int .u64 ((now : Nat) : Int), .slice ad L.length cap]) rfl ty76 rfl (b := b2) zM rfl rfl rfl ?_
 refine W_move rfl rfl ?_
 refine W_call (.cons rfl (.cons rfl .nil)) Tryz.call32 rfl ((rFind_L (now := now) (cap := cap) (id := t.id) hl (hrow.up zH)).hsub (.refl _)) ?_
 rintro v H' ⟨z, rfl, hz, rfl⟩
 obtain ⟨i, t2, rfl, hi, e2⟩ := hz.resolve_right (fun h => h.2 (List.mem_map_of_mem hin))
 obtain rfl : t2 = t := tm_uniq hn (List.mem_of_getElem? hi) hin e2
 have hil := (List.getElem?_eq_some_iff.1 hi).1
 refine W_assign rfl rfl ?_
 refine W_nil (W_seq (W_sr ?_))
 refine W_move rfl rfl ?_
 refine W_bin rfl rfl b_lss rfl ?_
 refine W_nil ?_
 refine W_condF rfl (decide_eq_false zO) ?_
 refine W_skip (W_sr ?_)
 refine W_buildSlice (l := []) ty74 ty73 .nil rfl rfl rfl rfl rfl rfl rfl (fun b14 => ?_)
 refine W_fieldAddr rfl fld76_1 zd rfl ?_
 refine W_load rfl ty74 rfl (Cell.own zM rfl) rfl ?_
 refine W_move rfl rfl ?_
 obtain ⟨b0, o0, rfl, _⟩ := Holds.row tmC_len zd hrow hi
 refine W_slice0 (hh := i) rfl ty74 ty73 rfl ⟨_, rfl⟩ zO rfl ?_
 refine W_append (news := rowT (L.take i)) (m := i) (HB := [(b14, .cells 73 0 [])]) (H0 := (b4, .cells 76 2 [.int .u64 0, .slice none 0 0]) :: (b2, .cells 76 2 [.int .u64 ((now : Nat) : Int), .slice (some ⟨b0, o0, none⟩) L.length cap]) :: H) rfl rfl ty74 ty73 rfl (by decide) (OwnS.own (n := 0) (cap := 0) (xs := []) rfl (Nat.le_refl _) (Nat.zero_le _)) (by rw [rowT_len, List.length_take]; congr 1; omega) (by rw [← rowT_take]; exact (hrow.take _).up zH) (rowT_one _) (by simp only [maxLen]; omega) (by omega) (.refl _) rfl (fun v1 X1 hO1 => ?_)
 refine W_assign rfl rfl ?_
 refine W_nil (W_seq ?_)
 refine W_anyC [(b2, .cells 76 2 [.int .u64 ((now : Nat) : Int), .slice (some ⟨b0, o0, none⟩) L.length cap])] zk ?_
 refine WC_take 0 (l' := #[true, false, false, false, false, false, false, false, false, false, false, false]) rfl zK zK zK rfl zK (X_fieldAddr rfl fld76_0 zd) rfl ?_
 refine WC_take 1 (l' := #[true, true, false, false, false, false, false, false, false, false, false, false]) rfl zK zK zK rfl zK (X_load rfl ty22 rfl (Cell.own zM rfl)) rfl ?_
 refine WC_take 2 (l' := #[true, true, true, false, false, false, false, false, false, false, false, false]) rfl zK zK zK rfl zK (X_move rfl) rfl ?_
 refine WC_take 3 (l' := #[true, true, true, true, false, false, false, false, false, false, false, false]) rfl zK zK zK rfl zK (X_fieldAddr rfl fld76_1 zd) rfl ?_
 refine WC_take 4 (l' := #[true, true, true, true, true, false, false, false, false, false, false, false]) rfl zK zK zK rfl zK (X_load rfl ty74 rfl (Cell.own zM rfl)) rfl ?_
 refine WC_take 5 (l' := #[true, true, true, true, true, true, false, false, false, false, false, false]) rfl zK zK zK rfl zK (X_move rfl) rfl ?_
 refine WC_take 6 (l' := #[true, true, true, true, true, true, true, false, false, false, false, false]) rfl (by decide +kernel) (by decide +kernel) (by decide +kernel) rfl (by decide +kernel) (X_bin rfl rfl (b_add (m := ((i + 1 : Nat) : Int)) (by rw [i64w (by omega)]; omega))) rfl ?_
 obtain ⟨o1, ho1⟩ : ∃ o1, o1 = if cap = i + 1 then o0 else o0 + (i + 1) * 5 := ⟨_, rfl⟩
 have hdr : Holds w0 H (some ⟨b0, o1, none⟩) (rowT (L.drop (i + 1))) := by
  rw [← rowT_drop]
  exact Holds.drop (cap := cap * 5) hrow (by rw [rowT_len]; omega) (fun h => by rw [ho1, if_neg (by omega)])
 refine WC_take 7 (l' := #[true, true, true, true, true, true, true, true, false, false, false, false]) rfl zK zK zK rfl zK (X_sliceAt (l := i + 1) (hh := L.length) rfl ty74 ty73 ⟨_, rfl⟩ rfl zO hcap ho1) rfl ?_
 refine WC_one 8 (l' := #[true, true, true, true, true, true, true, true, true, false, false, false]) zH zK rfl zK ?_
 refine W_append (news := rowT (L.drop (i + 1))) (m := L.length - (i + 1)) (HB := X1) (H0 := (b4, .cells 76 2 [.int .u64 0, .slice none 0 0]) :: (b2, .cells 76 2 [.int .u64 ((now : Nat) : Int), .slice (some ⟨b0, o0, none⟩) L.length cap]) :: H) rfl rfl ty74 ty73 rfl (by decide) hO1 (by rw [rowT_len, List.length_drop]) (hdr.up zH) (rowT_one _) (by simp only [maxLen]; omega) (by omega) zH rfl (fun v2 X2 hO2 => ?_)
 obtain ⟨ad2, cap2, rfl, _, _⟩ := hO2.shape
 refine W_nil ?_
 refine WC_goal ?_
 refine WC_take 9 (l' := #[true, true, true, true, true, true, true, true, true, true, false, false]) rfl zK zK zK rfl zK (X_build (l := [.int .u64 ((now : Nat) : Int), .slice ad2 (0 + i + (L.length - (i + 1))) cap2]) ty76 pl76 (.cons rfl rfl rfl rfl rfl (.cons rfl rfl rfl rfl rfl .nil)) rfl rfl) rfl ?_
 refine WC_one 10 (l' := #[true, true, true, true, true, true, true, true, true, true, true, false]) zH zK rfl zK ?_
 refine W_storeA (l' := [.int .u64 ((now : Nat) : Int), .slice ad2 (0 + i + (L.length - (i + 1))) cap2]) rfl rfl ty76 rfl rfl (b := b4) zM (by exact Nat.le_refl 2) rfl zU ?_
 refine W_nil ?_
 refine WC_goal ?_
 refine WC_take 11 (l' := #[true, true, true, true, true, true, true, true, true, true, true, true]) rfl zK zK zK rfl zK (X_assign rfl) rfl ?_
 refine WC_done zH zK ?_
 refine W_ret2G (H2 := X2 ++ H) Tryz.results131 (.nil _) (.own rfl ty76 rfl zM rfl) (.tmp rfl) zH ?_
 refine ⟨_, X2, rfl, ?_, rfl⟩
 rw [delT_at hn hi, rowT_app, List.length_append, List.length_take, List.length_drop, Nat.min_eq_left (by omega)]
 simp only [Nat.zero_add, List.nil_append] at hO2 ⊢
 exact hO2
structure Goi (a : Nat) (L Li O : List Tm) : Prop where
 mem : ∀ t ∈ O, t ∈ L ∧ t.s.due ≤ a
 left : Li = L.filter (fun t => decide (t ∉ O))
 nodup : O.Nodup
 asc : O.Pairwise ahead
 cross : ∀ o ∈ O, ∀ t ∈ Li, ahead o t
theorem Goi.start {a : Nat} {L : List Tm} : Goi a L L [] :=
 ⟨fun t h => (by cases h), (List.filter_eq_self.2 fun t _ => by simp).symm, .nil, .nil, fun o h => (by cases h)⟩
theorem Goi.sub {a : Nat} {L Li O : List Tm} (h : Goi a L Li O) : List.Sublist Li L := by rw [h.left]; exact List.filter_sublist
theorem nodup_le {α : Type} [DecidableEq α] : ∀ {a b : List α}, a.Nodup → (∀ x ∈ a, x ∈ b) → a.length ≤ b.length
 | [], _, _, _ => Nat.zero_le _
 | x :: a, b, hn, h => by
  have hn' := List.nodup_cons.1 hn
  have hx := h x List.mem_cons_self
  have := nodup_le (a := a) (b := b.erase x) hn'.2 (fun y hy => (List.mem_erase_of_ne (fun e : y = x => hn'.1 (e ▸ hy))).2 (h y (List.mem_cons_of_mem _ hy)))
  rw [List.length_erase_of_mem hx] at this
  have : 0 < b.length := List.length_pos_of_mem hx
  simp only [List.length_cons]; omega
theorem Goi.len {a : Nat} {L Li O : List Tm} (h : Goi a L Li O) : O.length ≤ L.length := nodup_le h.nodup fun t ht => (h.mem t ht).1
theorem Goi.step {a i : Nat} {L Li O : List Tm} {t : Tm} (h : Goi a L Li O) (hn : (L.map (·.id)).Nodup) (ht : L.Pairwise (fun x y => x.turn < y.turn)) (hi : Li[i]? = some t) (hle : ∀ u ∈ Li, t.s.due ≤ u.s.due) (hf : ∀ (j : Nat) u, j < i → Li[j]? = some u → t.s.due < u.s.due) (hd : t.s.due ≤ a) : Goi a L (delT Li t.id) (O ++ [t]) := by
 have hin := List.mem_of_getElem? hi
 have hL := h.sub.subset hin
 have hno : t ∉ O := by rw [h.left] at hin; exact of_decide_eq_true (List.mem_filter.1 hin).2
 have hLn : (Li.map (·.id)).Nodup := hn.sublist (h.sub.map _)
 have hLt : Li.Pairwise (fun x y => x.turn < y.turn) := ht.sublist h.sub
 refine ⟨fun u hu => (List.mem_append.1 hu).elim (h.mem u) (fun h => by rw [List.mem_singleton.1 h]; exact ⟨hL, hd⟩), ?_, ?_, ?_, ?_⟩
 ·unfold delT
  conv => lhs; rw [h.left]
  rw [List.filter_filter]
  refine List.filter_congr fun u hu => ?_
  rw [← Bool.decide_and]
  refine decide_eq_decide.2 ⟨fun ⟨h1, h2⟩ h3 => ?_, fun h1 => ⟨fun e => h1 ?_, fun h2 => h1 (List.mem_append_left _ h2)⟩⟩
  ·rcases List.mem_append.1 h3 with h3 | h3
   ·exact h2 h3
   ·exact h1 (by rw [List.mem_singleton.1 h3])
  ·rw [tm_uniq hn hu hL e]; exact List.mem_append_right _ List.mem_cons_self
 ·rw [List.nodup_append]
  exact ⟨h.nodup, by simp, fun x hx y hy e => hno (by rw [← List.mem_singleton.1 hy, ← e]; exact hx)⟩
 ·rw [List.pairwise_append]
  exact ⟨h.asc, List.pairwise_singleton _ _, fun x hx y hy => by rw [List.mem_singleton.1 hy]; exact h.cross x hx t hin⟩
 ·intro o ho u hu
  obtain ⟨hu1, hu2⟩ := List.mem_filter.1 hu
  rcases List.mem_append.1 ho with ho | ho
  ·exact h.cross o ho u hu1
  ·rw [List.mem_singleton.1 ho]
   have h1 := hle u hu1
   by_cases e : t.s.due = u.s.due
   ·refine .inr ⟨e, ?_⟩
    obtain ⟨j, hj, ej⟩ := List.getElem_of_mem hu1
    have hij : i < j := by
     rcases Nat.lt_trichotomy j i with c | c | c
     ·have := hf j u c (by rw [List.getElem?_eq_getElem hj, ej]); omega
     ·subst c
      rw [List.getElem?_eq_getElem hj, ej] at hi
      exact absurd (congrArg Tm.id (Option.some.inj hi)) (of_decide_eq_true hu2)
     ·exact c
    have hi2 := (List.getElem?_eq_some_iff.1 hi)
    have := List.pairwise_iff_getElem.1 hLt i j hi2.1 hj hij
    rwa [hi2.2, ej] at this
   ·exact .inl zO
theorem Goi.done {now a : Nat} {L Li O : List Tm} (h : Goi a L Li O) (hn : (L.map (·.id)).Nodup) (hle : now ≤ a) (hl : ∀ t ∈ Li, a < t.s.due) : Gone now a L Li O := by
 have hiff : ∀ t ∈ L, (t ∉ O ↔ a < t.s.due) := fun t ht => ⟨fun h1 => hl t (by rw [h.left]; exact List.mem_filter.2 ⟨ht, decide_eq_true h1⟩), fun h1 h2 => by have := (h.mem t h2).2; omega⟩
 have hLn : L.Nodup := List.Pairwise.of_map _ (fun a b h e => h (congrArg Tm.id e)) hn
 refine ⟨hle, ?_, ?_, h.asc⟩
 ·rw [h.left]
  exact List.filter_congr fun t ht => decide_eq_decide.2 (hiff t ht)
 ·refine (List.perm_ext_iff_of_nodup h.nodup (hLn.sublist List.filter_sublist)).2 fun t => ⟨fun h1 => List.mem_filter.2 ⟨(h.mem t h1).1, decide_eq_true (h.mem t h1).2⟩, fun h1 => ?_⟩
  obtain ⟨h2, h3⟩ := List.mem_filter.1 h1
  have := of_decide_eq_true h3
  by_cases c : t ∈ O
  ·exact c
  ·have := (hiff t h2).1 c; omega
structure RtS where
 Li : List Tm
 O : List Tm
 v : Value
 XO : Heap
 ad : Option Addr
 cap : Nat
 XR : Heap
 z : Int
theorem rTo_stay {w0 : World} {H : Heap} {now cap : Nat} {L : List Tm} {ad : Option Addr} (hl : L.length ≤ 1000000) (hrow : Holds w0 H ad (rowT L)) {a : Nat} (ha : a ≤ now)  : PureAt Tryz.prog w0 H 116 [.agg (List.toArray [.int .u64 ((now : Nat) : Int), .slice ad L.length cap]), .int .u64 ((a : Nat) : Int)] (.tuple #[.agg (List.toArray [.int .u64 ((now : Nat) : Int), .slice ad L.length cap]), .slice none 0 0]) := by
 refine L_enter Tryz.func116 rfl Tryz.ntmps116 rfl rfl ?_
 refine W_sr ?_
 refine W_box (l := [.int .u64 ((now : Nat) : Int), .slice ad L.length cap]) rfl rfl rfl (fun b2 => ?_)
 refine W_alloc (l := [.int .u64 0, .slice none 0 0]) ty76 rfl rfl (fun b4 => ?_)
 refine W_assign rfl rfl ?_
 refine W_nil (W_sr ?_)
 refine W_assign rfl rfl ?_
 refine W_nil (W_seq (W_sr ?_))
 refine W_move rfl rfl ?_
 refine W_fieldAddr rfl fld76_0 zd rfl ?_
 refine W_load rfl ty22 rfl (Cell.own zM rfl) rfl ?_
 refine W_bin rfl rfl b_leq rfl ?_
 refine W_nil ?_
 refine W_condT rfl (decide_eq_true zO) ?_
 refine W_sr ?_
 refine W_loadB (vs := [.int .u64 ((now : Nat) : Int), .slice ad L.length cap]) rfl ty76 rfl (b := b2) zM rfl rfl rfl ?_
 refine W_move rfl rfl ?_
 refine W_storeA (l' := [.int .u64 ((now : Nat) : Int), .slice ad L.length cap]) rfl rfl ty76 rfl rfl (b := b4) zM (by exact Nat.le_refl 2) rfl zU ?_
 refine W_assign rfl rfl ?_
 refine W_nil ?_
 refine W_ret2G (H2 := H) Tryz.results116 (.nil _) (.own rfl ty76 rfl zM rfl) (.tmp rfl) zH ?_
 exact ⟨rfl, rfl⟩
theorem delT_lt {L : List Tm} {t : Tm} (h : t ∈ L) : (delT L t.id).length < L.length := List.length_filter_lt_length_iff_exists.2 ⟨t, h, by simp⟩
theorem rTo_go {w0 : World} {H : Heap} {HR : Heap} {now cap : Nat} {L : List Tm} {ad : Option Addr} (hl : L.length ≤ 1000000) (hrow : Holds w0 HR ad (rowT L)) (hHR : HSub H HR) {a : Nat} (hcap : L.length ≤ cap) (hlt : now < a) (hn : (L.map (·.id)).Nodup) (ht : L.Pairwise (fun x y => x.turn < y.turn))  : LCalls Tryz.prog w0 116 #[.agg (List.toArray [.int .u64 ((now : Nat) : Int), .slice ad L.length cap]), .int .u64 ((a : Nat) : Int)] (H) (fun v H' => ∃ (Li O : List Tm) (ov : Value) (ad' : Option Addr) (cap' : Nat) (XR XO : Heap), v = .tuple #[.agg (List.toArray [.int .u64 ((a : Nat) : Int), .slice ad' Li.length cap']), ov] ∧ Gone now a L Li O ∧ Li.length ≤ cap' ∧ Holds w0 (XR ++ HR) ad' (rowT Li) ∧ OwnS 3 1 ov O.length ((O.map (·.id)).map (Value.int .i64)) XO ∧ H' = XO ++ (XR ++ H)) := by
 refine L_enter (l := [.agg (List.toArray [.int .u64 ((now : Nat) : Int), .slice ad L.length cap]), .int .u64 ((a : Nat) : Int)]) Tryz.func116 rfl Tryz.ntmps116 rfl rfl ?_
 refine W_sr ?_
 refine W_box (l := [.int .u64 ((now : Nat) : Int), .slice ad L.length cap]) rfl rfl rfl (fun b2 => ?_)
 refine W_alloc (l := [.int .u64 0, .slice none 0 0]) ty76 rfl rfl (fun b4 => ?_)
 refine W_assign rfl rfl ?_
 refine W_nil (W_sr ?_)
 refine W_assign rfl rfl ?_
 refine W_nil (W_seq (W_sr ?_))
 refine W_move rfl rfl ?_
 refine W_fieldAddr rfl fld76_0 zd rfl ?_
 refine W_load rfl ty22 rfl (Cell.own zM rfl) rfl ?_
 refine W_bin rfl rfl b_leq rfl ?_
 refine W_nil ?_
 refine W_condF rfl (decide_eq_false zO) ?_
 refine W_skip (W_sr ?_)
 refine W_loadB (vs := [.int .u64 ((now : Nat) : Int), .slice ad L.length cap]) rfl ty76 rfl (b := b2) zM rfl rfl rfl ?_
 refine W_call (.cons rfl .nil) Tryz.call133 rfl ((rNext_L (now := now) (cap := cap) (ad := ad) (L := L) hl (hrow.up ((show HSub _ H from zH).trans hHR))).hsub (.refl _)) ?_
 rintro v H' ⟨z0, rfl, hB0, rfl⟩
 refine W_assign rfl rfl ?_
 refine W_nil (W_seq (W_block ?_))
 refine W_loopC (X := RtS) [(1, _), (2, _), (4, _)] (fun (x : RtS) => [(6, x.v), (7, .int .i64 x.z)]) (fun _ => _) (fun (x : RtS) => (b4, .cells 76 2 [.int .u64 0, .slice none 0 0]) :: (b2, .cells 76 2 [.int .u64 ((now : Nat) : Int), .slice x.ad (x.Li).length x.cap]) :: (x.XO ++ (x.XR ++ H))) (fun (x : RtS) => Holds w0 (x.XR ++ HR) x.ad (rowT x.Li) ∧ x.Li.length ≤ x.cap ∧ BestT x.Li x.z ∧ OwnS 3 1 x.v x.O.length ((x.O.map (·.id)).map (Value.int .i64)) x.XO ∧ Goi a L x.Li x.O) (fun (x : RtS) => x.Li.length) ⟨L, [], .slice none 0 0, [], ad, cap, [], z0⟩ ⟨hrow, hcap, hB0, .nil, .start⟩ (sub_cons rfl (sub_cons rfl (sub_cons rfl (sub_nil _)))) (sub_cons rfl (sub_cons rfl (sub_nil _))) rfl (.refl _) ?_
 rintro ⟨Li, O, v, XO, ad, cap, XR, z⟩ ⟨hrw, hcp, hB, hO, hG⟩
 dsimp only at hrw hcp hB hO hG ⊢
 have hLl := hG.sub.length_le
 have hOl := hG.len
 simp only [List.cons_append, List.nil_append]
 refine W_seq (W_sr ?_)
 rcases hB with ⟨rfl, hnil⟩ | ⟨i, t, rfl, hti, hle, hfirst⟩
 ·skip
  refine W_move rfl rfl ?_
  refine W_bin rfl rfl b_geq rfl ?_
  first | rw [decide_eq_true (by omega)] | rw [decide_eq_false (by omega)]
  refine W_move rfl rfl ?_
  refine W_gno rfl rfl rfl ?_
  refine W_gno rfl rfl rfl ?_
  refine W_gno rfl rfl rfl ?_
  refine W_gno rfl rfl rfl ?_
  refine W_gno rfl rfl rfl ?_
  refine W_gno rfl rfl rfl ?_
  refine W_gno rfl rfl rfl ?_
  refine W_gno rfl rfl rfl ?_
  refine W_gno rfl rfl rfl ?_
  first | refine W_pickt rfl rfl rfl ?_ | refine W_pickf rfl rfl rfl ?_
  refine W_nil ?_
  refine W_condF rfl rfl ?_
  refine W_exit rfl ?_
  refine W_sr ?_
  refine W_move rfl rfl ?_
  refine W_fieldAddr rfl fld76_1 zd rfl ?_
  refine W_load rfl ty74 rfl (Cell.own zM rfl) rfl ?_
  refine W_build (l := [.int .u64 ((a : Nat) : Int), .slice ad Li.length cap]) ty76 pl76 (.cons rfl rfl rfl rfl rfl (.cons rfl rfl rfl rfl rfl .nil)) rfl rfl rfl ?_
  refine W_move rfl rfl ?_
  refine W_storeA (l' := [.int .u64 ((a : Nat) : Int), .slice ad Li.length cap]) rfl rfl ty76 rfl rfl (b := b4) zM (by exact Nat.le_refl 2) rfl zU ?_
  refine W_assign rfl rfl ?_
  refine W_nil ?_
  refine W_ret2G (H2 := XO ++ (XR ++ H)) Tryz.results116 (.nil _) (.own rfl ty76 rfl zM rfl) (.tmp rfl) zH ?_
  have hfin : ∀ u ∈ Li, a < u.s.due := by rw [hnil]; intro u hu; cases hu
  exact ⟨Li, O, v, _, cap, XR, XO, rfl, hG.done hn zO hfin, hcp, hrw, hO, rfl⟩
 ·skip
  have hil := (List.getElem?_eq_some_iff.1 hti).1
  obtain ⟨q0_, p0_, rfl, hc⟩ := Holds.row tmC_len zd hrw hti
  refine W_move rfl rfl ?_
  refine W_bin rfl rfl b_geq rfl ?_
  first | rw [decide_eq_true (by omega)] | rw [decide_eq_false (by omega)]
  refine W_move rfl rfl ?_
  refine W_gyes rfl rfl ?_
  refine W_fieldAddr rfl fld76_1 zd rfl ?_
  refine W_gyes rfl rfl ?_
  refine W_load rfl ty74 rfl (Cell.own zM rfl) rfl ?_
  refine W_gyes rfl rfl ?_
  refine W_move rfl rfl ?_
  refine W_gyes rfl rfl ?_
  refine W_indexAddr (j := i) rfl rfl ty74 ty73 rfl zO rfl rfl ?_
  refine W_gyes rfl rfl ?_
  refine W_fieldAddr rfl fld73_1 zd rfl ?_
  refine W_gyes rfl rfl ?_
  refine W_fieldAddr rfl fld70_3 zd rfl ?_
  refine W_gyes rfl rfl ?_
  refine W_load (v := .int .u64 (t.s.due : Int)) rfl ty22 rfl ((hc 4 (.int .u64 (t.s.due : Int)) rfl).up ((show HSub _ (XR ++ H) from zH).trans (HSub.app (TakeS.here _) hHR))) rfl ?_
  refine W_gyes rfl rfl ?_
  refine W_move rfl rfl ?_
  refine W_gyes rfl rfl ?_
  refine W_bin rfl rfl b_leq rfl ?_
  first | refine W_pickt rfl rfl rfl ?_ | refine W_pickf rfl rfl rfl ?_
  refine W_nil ?_
  refine W_condPS (p := t.s.due ≤ a) rfl (by rw [decide_eq_true_eq]; exact Int.ofNat_le) (fun q0 => ?_) (fun q0 => ?_)
  ·skip
   refine W_skip (W_block (W_sr ?_))
   refine W_move rfl rfl ?_
   refine W_fieldAddr rfl fld76_1 zd rfl ?_
   refine W_load rfl ty74 rfl (Cell.own zM rfl) rfl ?_
   refine W_move rfl rfl ?_
   refine W_indexAddr (j := i) rfl rfl ty74 ty73 rfl zO rfl rfl ?_
   refine W_fieldAddr rfl fld73_0 zd rfl ?_
   refine W_load (v := .int .i64 t.id) rfl ty3 rfl ((hc 0 (.int .i64 t.id) rfl).up ((show HSub _ (XR ++ H) from zH).trans (HSub.app (TakeS.here _) hHR))) rfl ?_
   refine W_buildSlice (l := [.int .i64 t.id]) ty24 ty3 (.cons rfl rfl rfl rfl rfl .nil) rfl rfl rfl rfl rfl rfl rfl (fun b36 => ?_)
   refine W_append (news := [.int .i64 t.id]) (m := 1) (HB := XO) (H0 := (b36, .cells 3 1 [.int .i64 t.id]) :: (b2, .cells 76 2 [.int .u64 ((now : Nat) : Int), .slice (some ⟨q0_, p0_, none⟩) (Li).length cap]) :: (b4, .cells 76 2 [.int .u64 0, .slice none 0 0]) :: (XR ++ H)) rfl rfl ty24 ty3 rfl (by decide) hO rfl (Holds.own zM) rfl (by simp only [maxLen]; omega) (by omega) zH rfl (fun v' XO' hO' => ?_)
   refine W_assign rfl rfl ?_
   refine W_nil (W_seq ?_)
   refine W_anyS ((b2, .cells 76 2 [.int .u64 ((now : Nat) : Int), .slice (some ⟨q0_, p0_, none⟩) (Li).length cap]) :: (XR ++ H)) 11 zk ?_
   refine WS_take 0 (l' := #[true, false, false, false, false, false, false, false, false, false, false, false]) rfl rfl zK zK zK zK rfl zK (X_loadB (vs := [.int .u64 ((now : Nat) : Int), .slice (some ⟨q0_, p0_, none⟩) Li.length cap]) rfl ty76 rfl (b := b2) zM rfl rfl) rfl ?_
   refine WS_take 1 (l' := #[true, true, false, false, false, false, false, false, false, false, false, false]) rfl rfl zK zK zK zK rfl zK (X_fieldAddr rfl fld76_1 zd) rfl ?_
   refine WS_take 2 (l' := #[true, true, true, false, false, false, false, false, false, false, false, false]) rfl rfl zK zK zK zK rfl zK (X_load (v := .slice (some ⟨q0_, p0_, none⟩) Li.length cap) rfl ty74 rfl (Cell.own (b := b2) zM rfl)) rfl ?_
   refine WS_take 3 (l' := #[true, true, true, true, false, false, false, false, false, false, false, false]) rfl rfl zK zK zK zK rfl zK (X_move rfl) rfl ?_
   refine WS_take 4 (l' := #[true, true, true, true, true, false, false, false, false, false, false, false]) rfl rfl zK zK zK zK rfl zK (X_indexAddr (j := i) rfl rfl ty74 ty73 rfl zO rfl) rfl ?_
   refine WS_take 5 (l' := #[true, true, true, true, true, true, false, false, false, false, false, false]) rfl rfl zK zK zK zK rfl zK (X_fieldAddr rfl fld73_0 zd) rfl ?_
   refine WS_take 6 (l' := #[true, true, true, true, true, true, true, false, false, false, false, false]) rfl rfl zK zK zK zK rfl zK (X_load (v := .int .i64 t.id) rfl ty3 rfl ((hc 0 (.int .i64 t.id) rfl).up (.drop (HSub.app (TakeS.here _) hHR)))) rfl ?_
   refine WS_one 7 (l' := #[true, true, true, true, true, true, true, true, false, false, false, false]) zH rfl zK rfl zK ?_
   refine W_call (.cons rfl (.cons rfl .nil)) Tryz.call131 rfl (rDel_hit (w0 := w0) (now := now) (cap := cap) (t := t) (H := XO' ++ ((b36, .cells 3 1 [.int .i64 t.id]) :: (b2, .cells 76 2 [.int .u64 ((now : Nat) : Int), .slice (some ⟨q0_, p0_, none⟩) (Li).length cap]) :: (b4, .cells 76 2 [.int .u64 0, .slice none 0 0]) :: (XR ++ H))) zO (hrw.up ((show HSub _ (XR ++ H) from zH).trans (HSub.app (TakeS.here _) hHR))) hcp (hn.sublist (hG.sub.map _)) (List.mem_of_getElem? hti)) ?_
   rintro v2 H' ⟨sv2, XB2, rfl, hR2, rfl⟩
   obtain ⟨ad2, cap2, rfl, hcp2, _⟩ := hR2.shape
   have hrw2 : Holds w0 (XB2 ++ HR) ad2 (rowT (delT Li t.id)) := OwnS.holds hR2 (fun p hp => List.mem_append_left _ hp)
   have hG2 := hG.step hn ht hti hle hfirst q0
   have hd2 : (delT Li t.id).length ≤ Li.length := List.length_filter_le _ _
   refine W_nil ?_
   refine WS_goal ?_
   refine WS_take 8 (l' := #[true, true, true, true, true, true, true, true, true, false, false, false]) rfl rfl zK zK zK zK rfl zK (X_move rfl) rfl ?_
   refine WS_take 9 (l' := #[true, true, true, true, true, true, true, true, true, true, false, false]) rfl rfl zK zK zK zK rfl zK (X_extract rfl rfl) rfl ?_
   refine WS_takeP 10 (l' := #[true, true, true, true, true, true, true, true, true, true, true, false]) rfl rfl zK zK zK rfl zK (X_extract rfl rfl) rfl ?_
   refine WS_last (l' := #[true, true, true, true, true, true, true, true, true, true, true, true]) zH zK rfl zK ?_
   refine W_storeA (l' := [.int .u64 ((now : Nat) : Int), .slice ad2 (delT Li t.id).length cap2]) rfl rfl ty76 rfl rfl (b := b2) zM (by exact Nat.le_refl 2) rfl zU ?_
   refine W_nil ?_
   refine WC_goal ?_
   refine WC_done (.nil _) zK ?_
   refine W_region ?_
   refine W_loadB (vs := [.int .u64 ((now : Nat) : Int), .slice ad2 (delT Li t.id).length cap2]) rfl ty76 rfl (b := b2) zM rfl rfl rfl ?_
   refine W_call (.cons rfl .nil) Tryz.call133 rfl ((rNext_L (now := now) (cap := cap2) (ad := ad2) (L := (delT Li t.id)) zO (hrw2.up ((show HSub _ (XB2 ++ H) from zH).trans (HSub.app (TakeS.here _) hHR)))).hsub (.refl _)) ?_
   rintro v H' ⟨z0, rfl, hB0, rfl⟩
   refine W_assign rfl rfl ?_
   refine W_nil ?_
   refine W_blk ?_
   refine W_again ⟨delT Li t.id, O ++ [t], v', XO', ad2, cap2, XB2, z0⟩ ⟨hrw2, hcp2, hB0, by show OwnS 3 1 v' (O ++ [t]).length (((O ++ [t]).map (·.id)).map (Value.int .i64)) XO'; rw [List.map_append, List.map_append, List.length_append]; exact hO', hG2⟩ (delT_lt (List.mem_of_getElem? hti)) (sub_cons rfl (sub_cons rfl (sub_cons rfl (sub_cons rfl (sub_cons rfl (sub_nil _)))))) rfl zH
  ·skip
   refine W_exit rfl ?_
   refine W_sr ?_
   refine W_move rfl rfl ?_
   refine W_fieldAddr rfl fld76_1 zd rfl ?_
   refine W_load rfl ty74 rfl (Cell.own zM rfl) rfl ?_
   refine W_build (l := [.int .u64 ((a : Nat) : Int), .slice (some ⟨q0_, p0_, none⟩) Li.length cap]) ty76 pl76 (.cons rfl rfl rfl rfl rfl (.cons rfl rfl rfl rfl rfl .nil)) rfl rfl rfl ?_
   refine W_move rfl rfl ?_
   refine W_storeA (l' := [.int .u64 ((a : Nat) : Int), .slice (some ⟨q0_, p0_, none⟩) Li.length cap]) rfl rfl ty76 rfl rfl (b := b4) zM (by exact Nat.le_refl 2) rfl zU ?_
   refine W_assign rfl rfl ?_
   refine W_nil ?_
   refine W_ret2G (H2 := XO ++ (XR ++ H)) Tryz.results116 (.nil _) (.own rfl ty76 rfl zM rfl) (.tmp rfl) zH ?_
   have hfin : ∀ u ∈ Li, a < u.s.due := fun u hu => by have := hle u hu; omega
   exact ⟨Li, O, v, _, cap, XR, XO, rfl, hG.done hn zO hfin, hcp, hrw, hO, rfl⟩
theorem rOfS_pure {e : Spot} : Pure Tryz.prog (fun _ => True) 31 [.agg e.v.toArray] (.agg e.v.toArray) := by
 intro w0 H hT
 refine L_enter Tryz.func31 rfl Tryz.ntmps31 rfl rfl ?_
 refine W_sr ?_
 refine W_box (l := e.v) rfl rfl rfl (fun b1 => ?_)
 refine W_alloc (l := zSpot.v) ty70 rfl rfl (fun b2 => ?_)
 refine W_nil (W_sr ?_)
 refine W_fieldAddr rfl fld32_0 zd rfl ?_
 refine W_load (v := .int .i64 (e.lv : Int)) rfl ty3 rfl (Cell.own (b := b1) zM rfl) rfl ?_
 refine W_fieldAddr rfl fld32_1 zd rfl ?_
 refine W_load (v := .int .i64 (e.slot : Int)) rfl ty3 rfl (Cell.own (b := b1) zM rfl) rfl ?_
 refine W_fieldAddr rfl fld32_2 zd rfl ?_
 refine W_load (v := .int .u64 (e.at_ : Int)) rfl ty22 rfl (Cell.own (b := b1) zM rfl) rfl ?_
 refine W_fieldAddr rfl fld32_3 zd rfl ?_
 refine W_load (v := .int .u64 (e.due : Int)) rfl ty22 rfl (Cell.own (b := b1) zM rfl) rfl ?_
 refine W_build (l := e.v) ty70 pl70 (.cons rfl rfl rfl rfl rfl (.cons rfl rfl rfl rfl rfl (.cons rfl rfl rfl rfl rfl (.cons rfl rfl rfl rfl rfl .nil)))) rfl rfl rfl ?_
 refine W_storeA (l' := e.v) rfl rfl ty70 rfl rfl (b := b2) zM (by exact Nat.le_refl 4) rfl zU ?_
 refine W_nil ?_
 refine W_ret1cO (H2 := H) Tryz.results31 rfl (.nil _) ty70 rfl zM rfl zH ?_
 exact ⟨rfl, rfl⟩
structure Wl where
 bw : Nat
 now : Nat
 L : List Tm
 turn : Nat
abbrev Wl.p (w : Wl) : Value := .pointer (some ⟨w.bw, 0, none⟩)
inductive BankH (bb : Nat) (Ws : List Wl) : Heap → Prop
 | mk {v : Value} {XS : Heap} {HWs : List Heap} (hv : OwnS 133 1 v Ws.length (Ws.map Wl.p) XS) (hl : HWs.length = Ws.length) (hw : ∀ (k : Nat) w HW, Ws[k]? = some w → HWs[k]? = some HW → WheelH w.bw w.now w.L w.turn HW) : BankH bb Ws ((bb, .cells 132 1 [v]) :: (XS ++ HWs.flatten))
theorem set_same {α : Type} {l : List α} {k : Nat} {x : α} (h : l[k]? = some x) : l.set k x = l := by
 apply List.ext_getElem?
 intro i
 by_cases e : k = i
 ·subst e; rw [List.getElem?_set_self (List.getElem?_eq_some_iff.1 h).1, h]
 ·rw [List.getElem?_set_ne e]
theorem BankH.at {bb k : Nat} {Ws : List Wl} {HB : Heap} {w : Wl} (h : BankH bb Ws HB) (hk : Ws[k]? = some w) : ∃ HW HR, WheelH w.bw w.now w.L w.turn HW ∧ (∀ H, HSub (HB ++ H) (HW ++ (HR ++ H))) ∧
  ∀ w' HW', w'.bw = w.bw → WheelH w'.bw w'.now w'.L w'.turn HW' → ∃ HB', BankH bb (Ws.set k w') HB' ∧ ∀ H, HSub (HW' ++ (HR ++ H)) (HB' ++ H) := by
 cases h with
 | @mk v XS HWs hv hl hw =>
  have hkl := (List.getElem?_eq_some_iff.1 hk).1
  obtain ⟨HW, hHW⟩ : ∃ HW, HWs[k]? = some HW := ⟨_, List.getElem?_eq_getElem zO⟩
  refine ⟨HW, (bb, .cells 132 1 [v]) :: (XS ++ (HWs.set k []).flatten), hw k w HW hk hHW, fun H => ?_, fun w' HW' e hw' => ?_⟩
  ·have h1 := ((flat_take hHW).append_left ((bb, .cells 132 1 [v]) :: XS)).append_right H
   refine HSub.of_perm ?_
   rw [List.append_assoc, List.append_assoc] at h1
   show (((bb, Blk.cells 132 1 [v]) :: XS) ++ HWs.flatten ++ H).Perm _
   rw [List.append_assoc]
   refine h1.trans ?_
   rw [List.append_assoc]
   refine (List.perm_append_comm_assoc _ _ _).trans ?_
   show (HW ++ (((bb, Blk.cells 132 1 [v]) :: XS) ++ _)).Perm (HW ++ ((((bb, Blk.cells 132 1 [v]) :: XS) ++ _) ++ H))
   rw [List.append_assoc]
  ·refine ⟨(bb, .cells 132 1 [v]) :: (XS ++ (HWs.set k HW').flatten), .mk ?_ (by rw [List.length_set, List.length_set, hl]) ?_, fun H => ?_⟩
   ·rw [List.length_set, List.map_set, set_same (by rw [List.getElem?_map, hk, show w'.p = w.p from by unfold Wl.p; rw [e]]; rfl)]; exact hv
   ·intro j u HU hj hU
    by_cases c : k = j
    ·subst c
     rw [List.getElem?_set_self hkl] at hj
     rw [List.getElem?_set_self (by omega)] at hU
     obtain rfl := Option.some.inj hj
     obtain rfl := Option.some.inj hU
     exact hw'
    ·rw [List.getElem?_set_ne c] at hj hU
     exact hw j u HU hj hU
   ·have h1 := ((flat_put (B := HW') (XS := HWs) (k := k) zO).append_left ((bb, .cells 132 1 [v]) :: XS)).append_right H
    refine HSub.of_perm (List.Perm.trans ?_ h1)
    show (HW' ++ ((((bb, Blk.cells 132 1 [v]) :: XS) ++ _) ++ H)).Perm _
    rw [List.append_assoc, List.append_assoc, List.append_assoc]
    exact List.perm_append_comm_assoc _ _ _
theorem BankH.row {bb : Nat} {Ws : List Wl} {HB : Heap} (h : BankH bb Ws HB) : ∃ ad cap, (bb, Blk.cells 132 1 [.slice ad Ws.length cap]) ∈ HB ∧ Ws.length ≤ cap ∧ ∀ {w0 : World} {H : Heap}, (∀ p ∈ HB, p ∈ H) → Holds w0 H ad (Ws.map Wl.p) := by
 cases h with
 | @mk v XS HWs hv hl hw =>
  obtain ⟨ad, cap, rfl, h1, _⟩ := hv.shape
  exact ⟨ad, cap, List.mem_cons_self, h1, fun hm => OwnS.holds hv (fun p hp => hm p (List.mem_cons_of_mem _ (List.mem_append_left _ hp)))⟩
def wlAt (Ws : List Wl) (cpu : Int) : Option Wl := if 0 ≤ cpu then Ws[cpu.toNat]? else none
def ofV (Ws : List Wl) (cpu : Int) : Value := match wlAt Ws cpu with
 | some w => w.p
 | none => .pointer none
theorem CPUs_q {w0 : World} {H : Heap} {HB : Heap} {bb : Nat} {Ws : List Wl} (hB : BankH bb Ws HB) (hm : ∀ p ∈ HB, p ∈ H)  : PureAt Tryz.prog w0 H 38 [.pointer (some ⟨bb, 0, none⟩)] (.int .i64 (Ws.length : Int)) := by
 obtain ⟨ad, cap, hcell, hlc, hrow0⟩ := hB.row
 have hrow : Holds w0 H ad (Ws.map Wl.p) := hrow0 hm
 refine L_enter Tryz.func38 rfl Tryz.ntmps38 rfl rfl ?_
 refine W_sr ?_
 refine W_assign rfl rfl ?_
 refine W_nil (W_seq (W_sr ?_))
 refine W_move rfl rfl ?_
 refine W_x (X_ptrNil rfl rfl ty84) (fun _ h => by cases h) rfl ?_
 refine W_nil ?_
 refine W_condF rfl rfl ?_
 refine W_skip (W_sr ?_)
 refine W_move rfl rfl ?_
 refine W_nilCheck rfl rfl ?_
 refine W_fieldAddr rfl fld132_0 zd rfl ?_
 refine W_load (v := .slice ad Ws.length cap) rfl ty130 rfl (Cell.own (b := bb) (hm _ hcell) rfl) rfl ?_
 refine W_len rfl ty130 rfl rfl ?_
 refine W_assign rfl rfl ?_
 refine W_nil ?_
 refine W_ret1m (H2 := H) Tryz.results38 rfl (.nil _) zH ?_
 exact ⟨rfl, rfl⟩
theorem cpu_ways (Ws : List Wl) (cpu : Int) : (cpu < 0 ∧ wlAt Ws cpu = none) ∨ (0 ≤ cpu ∧ (Ws.length : Int) ≤ cpu ∧ wlAt Ws cpu = none) ∨ (0 ≤ cpu ∧ cpu < (Ws.length : Int) ∧ wlAt Ws cpu = Ws[cpu.toNat]?) := by
 unfold wlAt
 by_cases h : 0 ≤ cpu
 ·by_cases h2 : cpu < (Ws.length : Int)
  ·exact .inr (.inr ⟨h, h2, if_pos h⟩)
  ·exact .inr (.inl ⟨h, by omega, by rw [if_pos h, List.getElem?_eq_none (by omega)]⟩)
 ·exact .inl ⟨by omega, if_neg h⟩
theorem of_q {w0 : World} {H : Heap} {HB : Heap} {bb : Nat} {Ws : List Wl} (hB : BankH bb Ws HB) (hm : ∀ p ∈ HB, p ∈ H) {cpu : Int}  : PureAt Tryz.prog w0 H 75 [.pointer (some ⟨bb, 0, none⟩), .int .i64 cpu] (ofV Ws cpu) := by
 obtain ⟨ad, cap, hcell, hlc, hrow0⟩ := hB.row
 have hrow : Holds w0 H ad (Ws.map Wl.p) := hrow0 hm
 refine L_enter Tryz.func75 rfl Tryz.ntmps75 rfl rfl ?_
 refine W_sr ?_
 refine W_assign rfl rfl ?_
 refine W_nil (W_seq (W_sr ?_))
 rcases cpu_ways Ws cpu with ⟨h1, h2⟩ | ⟨h1, h2, h3⟩ | ⟨h1, h2, h3⟩
 ·skip
  refine W_move rfl rfl ?_
  refine W_x (X_ptrNil rfl rfl ty84) (fun _ h => by cases h) rfl ?_
  refine W_move rfl rfl ?_
  refine W_gyes rfl rfl ?_
  refine W_move rfl rfl ?_
  refine W_gyes rfl rfl ?_
  refine W_bin rfl rfl b_lss rfl ?_
  rw [decide_eq_true (by omega)]
  first | refine W_pickt rfl rfl rfl ?_ | refine W_pickf rfl rfl rfl ?_
  refine W_move rfl rfl ?_
  refine W_gno rfl rfl rfl ?_
  refine W_gno rfl rfl rfl ?_
  refine W_gno rfl rfl rfl ?_
  refine W_gno rfl rfl rfl ?_
  refine W_gno rfl rfl rfl ?_
  refine W_gno rfl rfl rfl ?_
  refine W_gno rfl rfl rfl ?_
  first | refine W_pickt rfl rfl rfl ?_ | refine W_pickf rfl rfl rfl ?_
  refine W_nil ?_
  refine W_condT rfl rfl ?_
  refine W_sr ?_
  refine W_assign rfl rfl ?_
  refine W_nil ?_
  refine W_ret1m (H2 := H) Tryz.results75 rfl (.nil _) zH ?_
  exact ⟨by unfold ofV; rw [h2], rfl⟩
 ·skip
  refine W_move rfl rfl ?_
  refine W_x (X_ptrNil rfl rfl ty84) (fun _ h => by cases h) rfl ?_
  refine W_move rfl rfl ?_
  refine W_gyes rfl rfl ?_
  refine W_move rfl rfl ?_
  refine W_gyes rfl rfl ?_
  refine W_bin rfl rfl b_lss rfl ?_
  rw [decide_eq_false (by omega)]
  first | refine W_pickt rfl rfl rfl ?_ | refine W_pickf rfl rfl rfl ?_
  refine W_move rfl rfl ?_
  refine W_gyes rfl rfl ?_
  refine W_move rfl rfl ?_
  refine W_gyes rfl rfl ?_
  refine W_move rfl rfl ?_
  refine W_gyes rfl rfl ?_
  refine W_nilCheck rfl rfl ?_
  refine W_gyes rfl rfl ?_
  refine W_fieldAddr rfl fld132_0 zd rfl ?_
  refine W_gyes rfl rfl ?_
  refine W_load (v := .slice ad Ws.length cap) rfl ty130 rfl (Cell.own (b := bb) (hm _ hcell) rfl) rfl ?_
  refine W_gyes rfl rfl ?_
  refine W_len rfl ty130 rfl rfl ?_
  refine W_gyes rfl rfl ?_
  refine W_bin rfl rfl b_geq rfl ?_
  rw [decide_eq_true (by omega)]
  first | refine W_pickt rfl rfl rfl ?_ | refine W_pickf rfl rfl rfl ?_
  refine W_nil ?_
  refine W_condT rfl rfl ?_
  refine W_sr ?_
  refine W_assign rfl rfl ?_
  refine W_nil ?_
  refine W_ret1m (H2 := H) Tryz.results75 rfl (.nil _) zH ?_
  exact ⟨by unfold ofV; rw [h3], rfl⟩
 ·skip
  refine W_move rfl rfl ?_
  refine W_x (X_ptrNil rfl rfl ty84) (fun _ h => by cases h) rfl ?_
  refine W_move rfl rfl ?_
  refine W_gyes rfl rfl ?_
  refine W_move rfl rfl ?_
  refine W_gyes rfl rfl ?_
  refine W_bin rfl rfl b_lss rfl ?_
  rw [decide_eq_false (by omega)]
  first | refine W_pickt rfl rfl rfl ?_ | refine W_pickf rfl rfl rfl ?_
  refine W_move rfl rfl ?_
  refine W_gyes rfl rfl ?_
  refine W_move rfl rfl ?_
  refine W_gyes rfl rfl ?_
  refine W_move rfl rfl ?_
  refine W_gyes rfl rfl ?_
  refine W_nilCheck rfl rfl ?_
  refine W_gyes rfl rfl ?_
  refine W_fieldAddr rfl fld132_0 zd rfl ?_
  refine W_gyes rfl rfl ?_
  refine W_load (v := .slice ad Ws.length cap) rfl ty130 rfl (Cell.own (b := bb) (hm _ hcell) rfl) rfl ?_
  refine W_gyes rfl rfl ?_
  refine W_len rfl ty130 rfl rfl ?_
  refine W_gyes rfl rfl ?_
  refine W_bin rfl rfl b_geq rfl ?_
  rw [decide_eq_false (by omega)]
  first | refine W_pickt rfl rfl rfl ?_ | refine W_pickf rfl rfl rfl ?_
  refine W_nil ?_
  refine W_condF rfl rfl ?_
  refine W_skip (W_sr ?_)
  refine W_move rfl rfl ?_
  refine W_nilCheck rfl rfl ?_
  refine W_fieldAddr rfl fld132_0 zd rfl ?_
  obtain ⟨w, hw⟩ : ∃ w, Ws[cpu.toNat]? = some w := ⟨_, List.getElem?_eq_getElem zO⟩
  obtain ⟨qb, qo, rfl, hc⟩ := hrow.at (i := cpu.toNat) (v := w.p) (by rw [List.getElem?_map, hw]; rfl)
  refine W_load (v := .slice (some ⟨qb, qo, none⟩) Ws.length cap) rfl ty130 rfl (Cell.own (b := bb) (hm _ hcell) rfl) rfl ?_
  refine W_move rfl rfl ?_
  refine W_indexAddr (j := cpu.toNat) rfl rfl ty130 ty133 zO zO rfl rfl ?_
  refine W_load (v := w.p) rfl ty133 rfl (by rw [Nat.mul_one]; exact hc) rfl ?_
  refine W_assign rfl rfl ?_
  refine W_nil ?_
  refine W_ret1m (H2 := H) Tryz.results75 rfl (.nil _) zH ?_
  exact ⟨by unfold ofV; rw [h3, hw], rfl⟩
structure NbS where
 i : Nat
 Ws : List Wl
 v : Value
 XS : Heap
 HWs : List Heap
def FreshW (now : Nat) (w : Wl) : Prop := w.now = now ∧ w.L = [] ∧ w.turn = 0
theorem all_snoc {Ws : List Wl} {HWs : List Heap} {u : Wl} {HU : Heap} (hl : HWs.length = Ws.length) (hw : ∀ (k : Nat) w HW, Ws[k]? = some w → HWs[k]? = some HW → WheelH w.bw w.now w.L w.turn HW) (hu : WheelH u.bw u.now u.L u.turn HU) : ∀ (k : Nat) w HW, (Ws ++ [u])[k]? = some w → (HWs ++ [HU])[k]? = some HW → WheelH w.bw w.now w.L w.turn HW := fun k w HW h1 h2 => by
 by_cases c : k < Ws.length
 ·rw [List.getElem?_append_left c] at h1
  rw [List.getElem?_append_left (by omega)] at h2
  exact hw k w HW h1 h2
 ·rw [List.getElem?_append_right (by omega)] at h1 h2
  rw [hl] at h2
  cases hk : k - Ws.length with
  | zero =>
   rw [hk] at h1 h2
   obtain rfl : u = w := by simpa using h1
   obtain rfl : HU = HW := by simpa using h2
   exact hu
  | succ j => rw [hk] at h1; simp at h1
theorem NewB_L {w0 : World} {H : Heap} {n now : Nat} (hn : 1 ≤ n ∧ n ≤ 64)  : LCalls Tryz.prog w0 34 #[.int .i64 (n : Int), .int .u64 ((now : Nat) : Int)] (H) (fun v H' => ∃ bb Ws HB, v = .tuple #[.pointer (some ⟨bb, 0, none⟩), .int .i64 0] ∧ BankH bb Ws HB ∧ Ws.length = n ∧ (∀ w ∈ Ws, FreshW now w) ∧ H' = HB ++ H) := by
 refine L_enter (l := [.int .i64 (n : Int), .int .u64 ((now : Nat) : Int)]) Tryz.func34 rfl Tryz.ntmps34 rfl rfl ?_
 refine W_sr ?_
 refine W_assign rfl rfl ?_
 refine W_assign rfl rfl ?_
 refine W_nil (W_seq (W_sr ?_))
 refine W_move rfl rfl ?_
 refine W_bin rfl rfl b_lss rfl ?_
 rw [decide_eq_false (by omega)]
 refine W_move rfl rfl ?_
 refine W_gyes rfl rfl ?_
 refine W_move rfl rfl ?_
 refine W_gyes rfl rfl ?_
 refine W_bin rfl rfl b_gtr rfl ?_
 rw [decide_eq_false (by omega)]
 first | refine W_pickt rfl rfl rfl ?_ | refine W_pickf rfl rfl rfl ?_
 refine W_nil ?_
 refine W_condF rfl rfl ?_
 refine W_skip (W_sr ?_)
 refine W_build (l := [.slice none 0 0]) ty132 pl132 .nil rfl rfl rfl ?_
 refine W_box (l := [.slice none 0 0]) rfl rfl rfl (fun b14 => ?_)
 refine W_assign rfl rfl ?_
 refine W_nil (W_seq (W_sr ?_))
 refine W_move rfl rfl ?_
 refine W_move rfl rfl ?_
 refine W_nil (W_block ?_)
 refine W_loopC (X := NbS) [(1, _), (6, _), (15, _)] (fun (x : NbS) => [(16, .int .i64 (x.i : Int))]) (fun _ => _) (fun (x : NbS) => (b14, .cells 132 1 [x.v]) :: (x.XS ++ (x.HWs.flatten ++ H))) (fun (x : NbS) => x.i ≤ n ∧ x.Ws.length = x.i ∧ OwnS 133 1 x.v x.Ws.length (x.Ws.map Wl.p) x.XS ∧ x.HWs.length = x.Ws.length ∧ (∀ (k : Nat) w HW, x.Ws[k]? = some w → x.HWs[k]? = some HW → WheelH w.bw w.now w.L w.turn HW) ∧ ∀ w ∈ x.Ws, FreshW now w) (fun (x : NbS) => n - x.i) ⟨0, [], .slice none 0 0, [], []⟩ ⟨Nat.zero_le _, rfl, .nil, rfl, fun k w HW h => (by cases h), fun w h => (by cases h)⟩ (sub_cons rfl (sub_cons rfl (sub_cons rfl (sub_nil _)))) (sub_cons rfl (sub_nil _)) rfl (.refl _) ?_
 rintro ⟨i, Ws, v, XS, HWs⟩ ⟨hi, hlen, hv, hl, hw, hf⟩
 dsimp only at hi hlen hv hl hw hf ⊢
 simp only [List.cons_append, List.nil_append]
 refine W_sr ?_
 refine W_bin rfl rfl b_lss rfl ?_
 refine W_nil (W_seq ?_)
 refine W_condPS (p := (i : Int) < (n : Int)) rfl (by simp) (fun q0 => ?_) (fun q0 => ?_)
 ·skip
  refine W_skip (W_seq (W_block ?_))
  refine W_anyS [(b14, .cells 132 1 [v])] 11 zk ?_
  refine WS_take 0 (l' := #[true, false, false, false, false, false, false, false, false, false, false, false]) rfl rfl zK zK zK zK rfl zK (X_move rfl) rfl ?_
  refine WS_take 1 (l' := #[true, true, false, false, false, false, false, false, false, false, false, false]) rfl rfl zK zK zK zK rfl zK (X_move rfl) rfl ?_
  refine WS_take 2 (l' := #[true, true, true, false, false, false, false, false, false, false, false, false]) rfl rfl zK zK zK zK rfl zK (X_nilCheck rfl) rfl ?_
  refine WS_take 3 (l' := #[true, true, true, true, false, false, false, false, false, false, false, false]) rfl rfl zK zK zK zK rfl zK (X_fieldAddr rfl fld132_0 zd) rfl ?_
  refine WS_take 4 (l' := #[true, true, true, true, true, false, false, false, false, false, false, false]) rfl rfl zK zK zK zK rfl zK (X_load (v := v) rfl ty130 rfl (Cell.own (b := b14) zM rfl)) rfl ?_
  refine WS_take 5 (l' := #[true, true, true, true, true, true, false, false, false, false, false, false]) rfl rfl zK zK zK zK rfl zK (X_move rfl) rfl ?_
  refine WS_one 6 (l' := #[true, true, true, true, true, true, true, false, false, false, false, false]) zH rfl zK rfl zK ?_
  refine W_call (.cons rfl .nil) Tryz.call73 rfl (New_W (now := now)) ?_
  rintro w2 H' ⟨bw, HW, rfl, hW, rfl⟩
  refine W_nil ?_
  refine WS_goal ?_
  refine WS_one 7 (l' := #[true, true, true, true, true, true, true, true, false, false, false, false]) zH rfl zK rfl zK ?_
  refine W_buildSlice (l := [.pointer (some ⟨bw, 0, none⟩)]) ty130 ty133 (.cons rfl rfl rfl rfl rfl .nil) rfl rfl rfl rfl rfl rfl rfl (fun b25 => ?_)
  refine W_nil ?_
  refine WS_goal ?_
  refine WS_one 8 (l' := #[true, true, true, true, true, true, true, true, true, false, false, false]) zH rfl zK rfl zK ?_
  refine W_append (news := [.pointer (some ⟨bw, 0, none⟩)]) (m := 1) (HB := XS) (H0 := (b25, .cells 133 1 [.pointer (some ⟨bw, 0, none⟩)]) :: (HW ++ ((b14, .cells 132 1 [v]) :: (HWs.flatten ++ H)))) rfl rfl ty130 ty133 rfl (by decide) hv rfl (Holds.own (b := b25) zM) rfl (by simp only [maxLen]; omega) (by omega) zH rfl (fun v' X' hv' => ?_)
  refine W_nil ?_
  refine WS_goal ?_
  refine WS_takeP 9 (l' := #[true, true, true, true, true, true, true, true, true, true, false, false]) rfl rfl zK zK zK rfl zK (X_nilCheck rfl) rfl ?_
  refine WS_take 10 (l' := #[true, true, true, true, true, true, true, true, true, true, true, false]) rfl rfl zK zK zK zK rfl zK (X_fieldAddr rfl fld132_0 zd) rfl ?_
  refine WS_last (l' := #[true, true, true, true, true, true, true, true, true, true, true, true]) zH zK rfl zK ?_
  have hv1 : v'.oneCell' = true := by obtain ⟨_, _, rfl, _⟩ := hv'.shape; rfl
  refine W_store (l' := [v']) rfl rfl ty130 hv1 rfl (b := b14) zM rfl rfl zU ?_
  refine W_nil ?_
  refine WC_goal ?_
  refine WC_done (.nil _) zK ?_
  refine W_blk ?_
  refine W_region ?_
  refine W_bin rfl rfl (b_add (m := ((i + 1 : Nat) : Int)) ((i64w zO).trans zO)) rfl ?_
  refine W_move rfl rfl ?_
  refine W_nil ?_
  refine W_again ⟨i + 1, Ws ++ [⟨bw, now, [], 0⟩], v', X', HWs ++ [HW]⟩ ⟨by show i + 1 ≤ n; omega, by show (Ws ++ [_]).length = i + 1; rw [List.length_append, hlen]; rfl, by show OwnS 133 1 v' (Ws ++ [_]).length ((Ws ++ [_]).map Wl.p) X'; rw [List.length_append, List.map_append]; exact hv', by show (HWs ++ [HW]).length = (Ws ++ [_]).length; rw [List.length_append, List.length_append, hl]; rfl, all_snoc hl hw hW, fun w h => (List.mem_append.1 h).elim (hf w) (fun h => by rw [List.mem_singleton.1 h]; exact ⟨rfl, rfl, rfl⟩)⟩ (by show n - (i + 1) < n - i; omega) (sub_cons rfl (sub_cons rfl (sub_cons rfl (sub_cons rfl (sub_nil _))))) rfl (by show HSub _ ((b14, .cells 132 1 [v']) :: (X' ++ ((HWs ++ [HW]).flatten ++ H))); rw [List.flatten_append, List.flatten_singleton, List.append_assoc]; first | exact hsubI | (repeat (first | with_reducible exact HSub.refl _ | refine HSub.cons zT ?_ | refine HSub.app zS ?_ | exact HSub.nil _ | exact HSub.refl _ | refine HSub.drop ?_ | refine HSub.dropS ?_)))
 ·skip
  refine W_exit rfl ?_
  refine W_sr ?_
  refine W_move rfl rfl ?_
  refine W_assign rfl rfl ?_
  refine W_assign rfl rfl ?_
  refine W_nil ?_
  refine W_ret2m (H2 := (b14, .cells 132 1 [v]) :: (XS ++ (HWs.flatten ++ H))) Tryz.results34 rfl rfl (.nil _) zH ?_
  exact ⟨b14, Ws, (b14, .cells 132 1 [v]) :: (XS ++ HWs.flatten), rfl, .mk hv hl hw, by omega, hf, by show _ = _ :: ((XS ++ HWs.flatten) ++ H); rw [List.append_assoc]⟩
theorem such_L {w0 : World} {H : Heap} {b f : Value} (hb : b.cells.toList = [b]) (hf : f.cells.toList = [f]) : LCalls Tryz.prog w0 83 #[b, f] (H) (fun v H' => ∃ b2 b3, v = .func (.func 107) #[] #[.pointer (some ⟨b2, 0, none⟩), .pointer (some ⟨b3, 0, none⟩)] ∧ H' = (b3, .cells 140 1 [f]) :: (b2, .cells 84 1 [b]) :: H) := by
 refine L_enter (l := [b, f]) Tryz.func83 rfl Tryz.ntmps83 rfl rfl ?_
 refine W_sr ?_
 refine W_box (l := [b]) rfl hb rfl (fun b2 => ?_)
 refine W_box (l := [f]) rfl hf rfl (fun b3 => ?_)
 refine W_assign rfl rfl ?_
 refine W_nil (W_sr ?_)
 refine W_makeFunc .nil (.cons rfl (.cons rfl .nil)) rfl ?_
 refine W_assign rfl rfl ?_
 refine W_nil ?_
 refine W_ret1m Tryz.results83 rfl (.nil _) (.refl _) ?_
 exact ⟨b2, b3, rfl, rfl⟩
theorem such_iter {w0 : World} {H HB0 : Heap} {lp b2 b3 bb n fi : Nat} {ca : List Value} {Ws0 : List Wl} (J : Nat → List Wl → Heap → Prop) (S : List Wl → Heap → Prop) (sel : Nat → Wl → Bool) (hfi : ∀ (args : Array Value) (w : World), (callFunc fi args).run Tryz.prog w = .ok (.enter fi args) w)
  (hn64 : n ≤ 64) (hlen : ∀ k Ws Hr, J k Ws Hr → Ws.length = n)
  (hcl : ∀ k Ws HB Hr w, k < n → Ws[k]? = some w → BankH bb Ws HB → J k Ws Hr → PureAt Tryz.prog w0 ((b2, .cells 84 1 [.pointer (some ⟨bb, 0, none⟩)]) :: (b3, .cells 140 1 [(Value.func (.func fi) #[] ca.toArray)]) :: (HB ++ Hr)) fi ([.int .i64 (k : Int), w.p] ++ ca) (.bool (sel k w)))
  (hskip : ∀ k Ws Hr w, k < n → Ws[k]? = some w → J k Ws Hr → sel k w = false → J (k + 1) Ws Hr)
  (hround : ∀ k Ws HB Hr w, k < n → Ws[k]? = some w → BankH bb Ws HB → J k Ws Hr → sel k w = true → RoundC Tryz.prog w0 lp #[.int .i64 (k : Int), w.p] ((b2, .cells 84 1 [.pointer (some ⟨bb, 0, none⟩)]) :: (b3, .cells 140 1 [(Value.func (.func fi) #[] ca.toArray)]) :: (HB ++ Hr)) (fun v H' => ∃ Ws' HB' Hr', BankH bb Ws' HB' ∧ HSub H' ((b2, .cells 84 1 [.pointer (some ⟨bb, 0, none⟩)]) :: (b3, .cells 140 1 [(Value.func (.func fi) #[] ca.toArray)]) :: (HB' ++ Hr')) ∧ ((v = .bool true ∧ J (k + 1) Ws' Hr') ∨ (v = .bool false ∧ S Ws' Hr'))))
  (hB0 : BankH bb Ws0 HB0) (hJ0 : J 0 Ws0 H) :
  LCalls Tryz.prog w0 107 #[.func (.yield lp) #[] #[], .pointer (some ⟨b2, 0, none⟩), .pointer (some ⟨b3, 0, none⟩)] ((b2, .cells 84 1 [.pointer (some ⟨bb, 0, none⟩)]) :: (b3, .cells 140 1 [(Value.func (.func fi) #[] ca.toArray)]) :: (HB0 ++ H)) (fun _ H' => ∃ Ws' HB' Hr', BankH bb Ws' HB' ∧ HSub H' ((b2, .cells 84 1 [.pointer (some ⟨bb, 0, none⟩)]) :: (b3, .cells 140 1 [(Value.func (.func fi) #[] ca.toArray)]) :: (HB' ++ Hr')) ∧ (J n Ws' Hr' ∨ S Ws' Hr')) := by
 refine L_enter (l := [.func (.yield lp) #[] #[], .pointer (some ⟨b2, 0, none⟩), .pointer (some ⟨b3, 0, none⟩)]) Tryz.func107 rfl Tryz.ntmps107 rfl rfl ?_
 refine W_sr ?_
 refine W_load (v := .pointer (some ⟨bb, 0, none⟩)) rfl ty84 rfl (Cell.own (b := b2) zM rfl) rfl ?_
 have hm0 : ∀ p ∈ HB0, p ∈ (b2, .cells 84 1 [.pointer (some ⟨bb, 0, none⟩)]) :: (b3, .cells 140 1 [(Value.func (.func fi) #[] ca.toArray)]) :: (HB0 ++ H) := fun p hp => List.mem_cons_of_mem _ (List.mem_cons_of_mem _ (List.mem_append_left _ hp))
 have hcq := CPUs_q (w0 := w0) (bb := bb) (Ws := Ws0) hB0 hm0
 rw [hlen 0 Ws0 H hJ0] at hcq
 refine W_callq (.cons rfl .nil) Tryz.call38 rfl hcq ?_
 refine W_move rfl rfl ?_
 refine W_nil (W_block ?_)
 refine W_loopC (X := (Nat × List Wl × Heap × Heap)) [(0, _), (1, _), (2, _), (7, _)] (fun (x : (Nat × List Wl × Heap × Heap)) => [(8, .int .i64 (x.1 : Int))]) (fun _ => _) (fun (x : (Nat × List Wl × Heap × Heap)) => (b2, .cells 84 1 [.pointer (some ⟨bb, 0, none⟩)]) :: (b3, .cells 140 1 [(Value.func (.func fi) #[] ca.toArray)]) :: (x.2.2.1 ++ x.2.2.2)) (fun (x : (Nat × List Wl × Heap × Heap)) => x.1 ≤ n ∧ BankH bb x.2.1 x.2.2.1 ∧ J x.1 x.2.1 x.2.2.2) (fun (x : (Nat × List Wl × Heap × Heap)) => n - x.1) (0, Ws0, HB0, H) ⟨Nat.zero_le _, hB0, hJ0⟩ (sub_cons rfl (sub_cons rfl (sub_cons rfl (sub_cons rfl (sub_nil _))))) (sub_cons rfl (sub_nil _)) rfl (.refl _) ?_
 rintro ⟨k, Ws, HB, Hr⟩ ⟨hk, hB, hJk⟩
 dsimp only at hk hB hJk ⊢
 simp only [List.cons_append, List.nil_append]
 refine W_sr ?_
 refine W_bin rfl rfl b_lss rfl ?_
 refine W_nil (W_seq ?_)
 refine W_condPS (p := (k : Int) < (n : Int)) rfl (by simp) (fun q0 => ?_) (fun q0 => ?_)
 ·skip
  refine W_skip (W_seq ?_)
  refine W_block (W_sr ?_)
  refine W_move rfl rfl ?_
  refine W_assign rfl rfl ?_
  refine W_nil (W_sr ?_)
  obtain ⟨w, hw⟩ : ∃ w, Ws[k]? = some w := ⟨_, List.getElem?_eq_getElem (by rw [hlen k Ws Hr hJk]; omega)⟩
  have hkn : k < n := by omega
  obtain ⟨ad, cap, hcell, hlc, hrow0⟩ := hB.row
  have hmem : ∀ p ∈ HB, p ∈ (b2, .cells 84 1 [.pointer (some ⟨bb, 0, none⟩)]) :: (b3, .cells 140 1 [(Value.func (.func fi) #[] ca.toArray)]) :: (HB ++ Hr) := fun p hp => List.mem_cons_of_mem _ (List.mem_cons_of_mem _ (List.mem_append_left _ hp))
  obtain ⟨qb, qo, rfl, hc⟩ := (hrow0 (w0 := w0) hmem).at (i := k) (v := w.p) (by rw [List.getElem?_map, hw]; rfl)
  refine W_load (v := .pointer (some ⟨bb, 0, none⟩)) rfl ty84 rfl (Cell.own (b := b2) zM rfl) rfl ?_
  refine W_nilCheck rfl rfl ?_
  refine W_fieldAddr rfl fld132_0 zd rfl ?_
  refine W_load (v := .slice (some ⟨qb, qo, none⟩) Ws.length cap) rfl ty130 rfl (Cell.own (b := bb) (hmem _ hcell) rfl) rfl ?_
  refine W_move rfl rfl ?_
  refine W_indexAddr (j := k) rfl rfl ty130 ty133 rfl (by rw [hlen k Ws Hr hJk]; omega) rfl rfl ?_
  refine W_load (v := w.p) rfl ty133 rfl (by rw [Nat.mul_one]; exact hc) rfl ?_
  refine W_assign rfl rfl ?_
  refine W_nil (W_sr ?_)
  refine W_load (v := (Value.func (.func fi) #[] ca.toArray)) rfl ty140 rfl (Cell.own (b := b3) zM rfl) rfl ?_
  refine W_move rfl rfl ?_
  refine W_move rfl rfl ?_
  refine W_callqv (fa := []) (ca := ca) rfl (.cons rfl (.cons rfl .nil)) rfl hfi rfl (hcl k Ws HB Hr w hkn hw hB hJk) ?_
  rcases hs : sel k w with _ | _
  ·skip
   refine W_move rfl rfl ?_
   refine W_gno rfl rfl rfl ?_
   refine W_gno rfl rfl rfl ?_
   refine W_gno rfl rfl rfl ?_
   refine W_gno rfl rfl rfl ?_
   refine W_gno rfl rfl rfl ?_
   first | refine W_pickt rfl rfl rfl ?_ | refine W_pickf rfl rfl rfl ?_
   refine W_nil ?_
   refine W_condF rfl rfl ?_
   refine W_skip ?_
   refine W_blk ?_
   refine W_region ?_
   refine W_bin rfl rfl (b_add (m := ((k + 1 : Nat) : Int)) ((i64w zO).trans zO)) rfl ?_
   refine W_move rfl rfl ?_
   refine W_nil ?_
   refine W_again (k + 1, Ws, HB, Hr) ⟨by show k + 1 ≤ n; omega, hB, hskip k Ws Hr w hkn hw hJk hs⟩ (by show n - (k + 1) < n - k; omega) (sub_cons rfl (sub_cons rfl (sub_cons rfl (sub_cons rfl (sub_cons rfl (sub_nil _)))))) rfl (.refl _)
  ·skip
   refine W_move rfl rfl ?_
   refine W_gyes rfl rfl ?_
   refine W_move rfl rfl ?_
   refine W_gyes rfl rfl ?_
   refine W_move rfl rfl ?_
   refine W_gyes rfl rfl ?_
   refine W_move rfl rfl ?_
   refine W_gyes rfl rfl ?_
   refine W_yield rfl (.cons rfl (.cons rfl .nil)) rfl (hround k Ws HB Hr w hkn hw hB hJk hs) ?_
   rintro v H' ⟨Ws', HB', Hr', hB', hsub, ⟨rfl, hJ'⟩ | ⟨rfl, hS'⟩⟩
   ·skip
    refine W_hsub hsub ?_
    refine W_gyes rfl rfl ?_
    refine W_not rfl rfl ?_
    first | refine W_pickt rfl rfl rfl ?_ | refine W_pickf rfl rfl rfl ?_
    refine W_nil ?_
    refine W_condF rfl rfl ?_
    refine W_skip ?_
    refine W_blk ?_
    refine W_region ?_
    refine W_bin rfl rfl (b_add (m := ((k + 1 : Nat) : Int)) ((i64w zO).trans zO)) rfl ?_
    refine W_move rfl rfl ?_
    refine W_nil ?_
    refine W_again (k + 1, Ws', HB', Hr') ⟨by show k + 1 ≤ n; omega, hB', hJ'⟩ (by show n - (k + 1) < n - k; omega) (sub_cons rfl (sub_cons rfl (sub_cons rfl (sub_cons rfl (sub_cons rfl (sub_nil _)))))) rfl (.refl _)
   ·skip
    refine W_hsub hsub ?_
    refine W_gyes rfl rfl ?_
    refine W_not rfl rfl ?_
    first | refine W_pickt rfl rfl rfl ?_ | refine W_pickf rfl rfl rfl ?_
    refine W_nil ?_
    refine W_condT rfl rfl ?_
    refine W_ret0m Tryz.results107 (.nil _) (.refl _) ?_
    exact ⟨Ws', HB', Hr', hB', .refl _, .inr hS'⟩
 ·skip
  refine W_exit rfl ?_
  refine W_end0m Tryz.results107 (.nil _) (.refl _) ?_
  obtain rfl : k = n := by omega
  exact ⟨Ws, HB, Hr, hB, .refl _, .inl hJk⟩
theorem BankH.wheel {bb k : Nat} {Ws : List Wl} {HB : Heap} {w : Wl} (h : BankH bb Ws HB) (hk : Ws[k]? = some w) : ∃ HW, WheelH w.bw w.now w.L w.turn HW ∧ ∀ p ∈ HW, p ∈ HB := by
 cases h with
 | @mk v XS HWs hv hl hw =>
  have hkl := (List.getElem?_eq_some_iff.1 hk).1
  obtain ⟨HW, hHW⟩ : ∃ HW, HWs[k]? = some HW := ⟨_, List.getElem?_eq_getElem zO⟩
  exact ⟨HW, hw k w HW hk hHW, fun p hp => List.mem_cons_of_mem _ (List.mem_append_right _ (List.mem_flatten.2 ⟨HW, List.mem_of_getElem? hHW, hp⟩))⟩
theorem find_q2 {w0 : World} {H HW : Heap} {bw now turn : Nat} {L : List Tm} {id : Int} (hW : WheelH bw now L turn HW) (hm : ∀ p ∈ HW, p ∈ H) : PureAt Tryz.prog w0 H 82 [.pointer (some ⟨bw, 0, none⟩), .int .i64 id] (.tuple #[.agg (spotOf L id).v.toArray, .bool (heldB L id)]) := by
 cases hW with
 | @mk bm c sl XS bs l h =>
  have h1 := hm _ List.mem_cons_self
  have h2 := hm _ (List.mem_cons_of_mem _ List.mem_cons_self)
  by_cases hin : id ∈ L.map (·.id)
  ·obtain ⟨t, ht, rfl⟩ := List.mem_map.1 hin
   obtain ⟨hv, hh⟩ := h.hit ht
   rw [spotOf_in h.nodup ht, heldB_iff.2 hin]
   exact Find_q (now := now) (turn := turn) (c := c) (l := l) h.row h1 h2 hv hh
  ·obtain ⟨hv, hh⟩ := h.miss hin
   rw [spotOf_out hin, show heldB L id = false by (cases hb : heldB L id with | false => rfl | true => exact absurd (heldB_iff.1 hb) hin)]
   exact Find_q (tn := 0) (e := zSpot) (now := now) (turn := turn) (c := c) (l := l) h.row h1 h2 hv hh
theorem findc_q {w0 : World} {H : Heap} {bi k : Nat} {id : Int} {w : Wl} {HW : Heap} (hW : WheelH w.bw w.now w.L w.turn HW) (hm : ∀ p ∈ HW, p ∈ H) (hb : (bi, .cells 3 1 [.int .i64 id]) ∈ H)  : PureAt Tryz.prog w0 H 81 [.int .i64 (k : Int), w.p, .pointer (some ⟨bi, 0, none⟩)] (.bool (heldB w.L id)) := by
 refine L_enter Tryz.func81 rfl Tryz.ntmps81 rfl rfl ?_
 refine W_sr ?_
 refine W_assign rfl rfl ?_
 refine W_nil (W_sr ?_)
 refine W_move rfl rfl ?_
 refine W_load (v := .int .i64 id) rfl ty3 rfl (Cell.own hb rfl) rfl ?_
 refine W_callq (.cons rfl (.cons rfl .nil)) Tryz.call82 rfl (find_q2 (id := id) hW hm) ?_
 refine W_move rfl rfl ?_
 refine W_extract rfl rfl rfl ?_
 refine W_extract rfl rfl rfl ?_
 refine W_alloc (l := zSpot.v) ty32 rfl rfl (fun b6 => ?_)
 refine W_storeA (l' := (spotOf w.L id).v) rfl rfl ty32 rfl rfl (b := b6) zM (by exact Nat.le_refl 4) rfl zU ?_
 refine W_assign rfl rfl ?_
 refine W_nil (W_sr ?_)
 refine W_move rfl rfl ?_
 refine W_assign rfl rfl ?_
 refine W_nil ?_
 refine W_ret1m (H2 := H) Tryz.results81 rfl (.nil _) zH ?_
 exact ⟨rfl, rfl⟩
def findK (Ws : List Wl) (id : Int) : Option Nat := Ws.findIdx? (fun w => heldB w.L id)
theorem findK_some {Ws : List Wl} {id : Int} {k : Nat} {w : Wl} (hw : Ws[k]? = some w) (hh : heldB w.L id = true) (hf : ∀ (j : Nat) u, j < k → Ws[j]? = some u → heldB u.L id = false) : findK Ws id = some k := by
 unfold findK
 have hk := (List.getElem?_eq_some_iff.1 hw)
 have hk1 := hk.1
 refine List.findIdx?_eq_some_iff_getElem.2 ⟨hk.1, by rw [hk.2]; exact hh, fun j hj => ?_⟩
 rw [hf j _ hj (List.getElem?_eq_getElem (by omega))]; simp
theorem findK_none {Ws : List Wl} {id : Int} (hf : ∀ (j : Nat) u, j < Ws.length → Ws[j]? = some u → heldB u.L id = false) : findK Ws id = none := by
 unfold findK
 rw [List.findIdx?_eq_none_iff]
 intro w hw
 obtain ⟨j, hj, e⟩ := List.getElem_of_mem hw
 exact hf j w hj (by rw [List.getElem?_eq_getElem hj, e])
def findV (Ws : List Wl) (id : Int) : Value := match findK Ws id with
 | some k => match Ws[k]? with
  | some w => .tuple #[.int .i64 (k : Int), .agg (spotOf w.L id).v.toArray, .bool true]
  | none => .tuple #[.int .i64 0, .agg zSpot.v.toArray, .bool false]
 | none => .tuple #[.int .i64 0, .agg zSpot.v.toArray, .bool false]
theorem snoc_all {Ws : List Wl} {p : Wl → Bool} {k : Nat} {w : Wl} (h : ∀ (j : Nat) u, j < k → Ws[j]? = some u → p u = false) (hw : Ws[k]? = some w) (hs : p w = false) : ∀ (j : Nat) u, j < k + 1 → Ws[j]? = some u → p u = false := fun j u hj hu => by
 by_cases e : j = k
 ·subst e
  obtain rfl := Option.some.inj (hu.symm.trans hw)
  exact hs
 ·exact h j u zO hu
theorem FindB_L {w0 : World} {H : Heap} {HB : Heap} {bb : Nat} {Ws : List Wl} {id : Int} (hB : BankH bb Ws HB) (hn64 : Ws.length ≤ 64)  : LCalls Tryz.prog w0 45 #[.pointer (some ⟨bb, 0, none⟩), .int .i64 id] (HB ++ H) (fun v H' => ∃ HB', BankH bb Ws HB' ∧ v = findV Ws id ∧ H' = HB' ++ H) := by
 refine L_enter (l := [.pointer (some ⟨bb, 0, none⟩), .int .i64 id]) Tryz.func45 rfl Tryz.ntmps45 rfl rfl ?_
 refine W_sr ?_
 refine W_box (l := [.int .i64 id]) rfl rfl rfl (fun b3 => ?_)
 refine W_alloc (l := [.int .i64 0]) ty3 rfl rfl (fun b4 => ?_)
 refine W_alloc (l := zSpot.v) ty32 rfl rfl (fun b5 => ?_)
 refine W_alloc (l := [.bool false]) ty4 rfl rfl (fun b6 => ?_)
 refine W_nil (W_sr ?_)
 refine W_makeFunc .nil (.cons rfl .nil) rfl ?_
 refine W_assign rfl rfl ?_
 refine W_nil (W_seq (W_sr ?_))
 refine W_move rfl rfl ?_
 refine W_move rfl rfl ?_
 refine W_call (.cons rfl (.cons rfl .nil)) Tryz.call83 rfl (such_L (b := .pointer (some ⟨bb, 0, none⟩)) (f := .func (.func 81) #[] #[.pointer (some ⟨b3, 0, none⟩)]) rfl rfl) ?_
 rintro v H' ⟨b2_, b3_, rfl, rfl⟩
 refine W_nil (W_block ?_)
 refine W_rangeFunc rfl Tryz.call107 ?_
 intro lp D r hst hpd hps hasg hbody hA
 have hr := loop_ready hst hpd
 show LCalls _ _ _ #[_, _, _] _ _
 refine ((such_iter (b2 := b2_) (b3 := b3_) (bb := bb) (n := Ws.length) (fi := 81) (ca := [.pointer (some ⟨b3, 0, none⟩)]) (Ws0 := Ws) (HB0 := HB) (H := (lp, .obj (.loop r)) :: (D, .obj (.deferred (some []))) :: (b6, .cells 4 1 [.bool false]) :: (b5, .cells 32 4 zSpot.v) :: (b4, .cells 3 1 [.int .i64 0]) :: (b3, .cells 3 1 [.int .i64 id]) :: H) (fun k Ws2 Hr => Ws2 = Ws ∧ (∀ (j : Nat) u, j < k → Ws[j]? = some u → heldB u.L id = false) ∧ Hr = (lp, .obj (.loop r)) :: (D, .obj (.deferred (some []))) :: (b6, .cells 4 1 [.bool false]) :: (b5, .cells 32 4 zSpot.v) :: (b4, .cells 3 1 [.int .i64 0]) :: (b3, .cells 3 1 [.int .i64 id]) :: H) (fun Ws2 Hr => Ws2 = Ws ∧ ∃ (k : Nat) (w : Wl), Ws[k]? = some w ∧ findK Ws id = some k ∧ Hr = (lp, .obj (.loop (Loop.at r .done (some .ret)))) :: (D, .obj (.deferred (some []))) :: (b6, .cells 4 1 [.bool true]) :: (b5, .cells 32 4 (spotOf w.L id).v) :: (b4, .cells 3 1 [.int .i64 (k : Int)]) :: (b3, .cells 3 1 [.int .i64 id]) :: H) (fun _ w => heldB w.L id) Tryz.call81 hn64 (fun k Ws' Hr hJ => by rw [hJ.1]) (fun k Ws2 HB2 Hr w hk hw hB2 hJ => by obtain ⟨rfl, _, rfl⟩ := hJ; obtain ⟨HW, hW, hmw⟩ := hB2.wheel hw; exact findc_q (bi := b3) hW (fun p hp => List.mem_cons_of_mem _ (List.mem_cons_of_mem _ (List.mem_append_left _ (hmw p hp)))) zM) (fun k Ws2 Hr w hk hw hJ hs => by obtain ⟨rfl, h1, h2⟩ := hJ; exact ⟨rfl, snoc_all h1 hw hs, h2⟩) ?_ hB ⟨rfl, fun j u hj => by omega, rfl⟩).hsub zH).mono ?_
 ·intro k Ws2 HB2 Hr w hk hw hB2 hJ hs
  obtain ⟨rfl, hJ1, rfl⟩ := hJ
  obtain ⟨HW, hW, hmw⟩ := hB2.wheel hw
  refine round_intro hst hpd hA hps rfl hasg rfl rfl rfl zT ?_
  refine W_sr ?_
  refine W_assign rfl rfl ?_
  refine W_nil ?_
  refine W_region ?_
  refine W_assign rfl rfl ?_
  refine W_nil ?_
  refine W_begin hst hpd zT hbody ?_
  refine W_block (W_sr ?_)
  refine W_move rfl rfl ?_
  refine W_load (v := .int .i64 id) rfl ty3 rfl (Cell.own (b := b3) zM rfl) rfl ?_
  refine W_callq (.cons rfl (.cons rfl .nil)) Tryz.call82 rfl (find_q2 (id := id) hW (fun p hp => (by repeat (first | exact List.mem_append_left _ (hmw p hp) | exact List.mem_cons_self | apply List.mem_cons_of_mem | apply List.mem_append_right)))) ?_
  refine W_move rfl rfl ?_
  refine W_extract rfl rfl rfl ?_
  refine W_extract rfl rfl rfl ?_
  refine W_alloc (l := zSpot.v) ty32 rfl rfl (fun b10 => ?_)
  refine W_storeA (l' := (spotOf w.L id).v) rfl rfl ty32 rfl rfl (b := b10) zM (by exact Nat.le_refl 4) rfl zU ?_
  refine W_assign rfl rfl ?_
  refine W_nil (W_seq ?_)
  refine Rd.W_anyC [(b10, .cells 32 4 (spotOf w.L id).v)] zk ?_
  refine Rd.WC_take 0 (l' := #[true, false, false, false, false]) rfl zK zK zK zK rfl zK (X_move rfl) rfl ?_
  refine Rd.WC_take 1 (l' := #[true, true, false, false, false]) rfl zK zK zK zK rfl zK (X_loadB (vs := (spotOf w.L id).v) rfl ty32 rfl (b := b10) zM rfl rfl) rfl ?_
  refine Rd.WC_one 2 (l' := #[true, true, true, false, false]) zH zK rfl zK ?_
  refine W_store (l' := [.int .i64 (k : Int)]) rfl rfl ty3 rfl rfl (b := b4) zM rfl rfl zU ?_
  refine W_nil ?_
  refine Rd.WC_goal ?_
  refine Rd.WC_one 3 (l' := #[true, true, true, true, false]) zH zK rfl zK ?_
  refine W_storeA (l' := (spotOf w.L id).v) rfl rfl ty32 rfl rfl (b := b5) zM (by exact Nat.le_refl 4) rfl zU ?_
  refine W_nil ?_
  refine Rd.WC_goal ?_
  refine Rd.WC_one 4 (l' := #[true, true, true, true, true]) zH zK rfl zK ?_
  refine W_store (l' := [.bool true]) rfl rfl ty4 rfl rfl (b := b6) zM rfl rfl zU ?_
  refine W_nil ?_
  refine Rd.WC_goal ?_
  refine Rd.WC_done zH zK ?_
  refine W_retround zT ?_
  exact ⟨Ws2, HB2, (lp, .obj (.loop (Loop.at r .done (some .ret)))) :: (D, .obj (.deferred (some []))) :: (b6, .cells 4 1 [.bool true]) :: (b5, .cells 32 4 (spotOf w.L id).v) :: (b4, .cells 3 1 [.int .i64 (k : Int)]) :: (b3, .cells 3 1 [.int .i64 id]) :: H, hB2, zH, .inr ⟨rfl, rfl, k, w, hw, findK_some hw hs hJ1, rfl⟩⟩
  skip
 ·intro _ H' hp
  obtain ⟨Ws2, HB2, Hr, hB2, hs, hJS⟩ := hp
  rcases hJS with ⟨rfl, hJ1, rfl⟩ | ⟨rfl, k, w, hw, hfk, rfl⟩
  case inr =>
   refine ⟨.done, some .ret, (b2_, .cells 84 1 [.pointer (some ⟨bb, 0, none⟩)]) :: (b3_, .cells 140 1 [.func (.func 81) #[] #[.pointer (some ⟨b3, 0, none⟩)]]) :: (HB2 ++ ((D, .obj (.deferred (some []))) :: (b6, .cells 4 1 [.bool true]) :: (b5, .cells 32 4 (spotOf w.L id).v) :: (b4, .cells 3 1 [.int .i64 (k : Int)]) :: (b3, .cells 3 1 [.int .i64 id]) :: H)), hs.trans zH, by decide, ?_⟩
   show W _ _ _ _ _ _ _ _ _
   refine W_ret3G (H2 := HB2 ++ H) Tryz.results45 (.cons zT (.nil _)) (.one rfl ty3 rfl (Cell.own (b := b4) zM rfl)) (.own rfl ty32 rfl (b := b5) zM rfl) (.one rfl ty4 rfl (Cell.own (b := b6) zM rfl)) zH ?_
   exact ⟨HB2, hB2, by unfold findV; rw [hfk]; dsimp only; rw [hw], rfl⟩
  refine ⟨.ready, none, (b2_, .cells 84 1 [.pointer (some ⟨bb, 0, none⟩)]) :: (b3_, .cells 140 1 [.func (.func 81) #[] #[.pointer (some ⟨b3, 0, none⟩)]]) :: (HB2 ++ ((D, .obj (.deferred (some []))) :: (b6, .cells 4 1 [.bool false]) :: (b5, .cells 32 4 zSpot.v) :: (b4, .cells 3 1 [.int .i64 0]) :: (b3, .cells 3 1 [.int .i64 id]) :: H)), by rw [hr]; exact hs.trans zH, by decide, ?_⟩
  show W _ _ _ _ _ _ _ _ _
  refine W_blk ?_
  refine W_sr ?_
  refine W_build ty32 pl32 .nil rfl zF rfl ?_
  refine W_store (l' := [.int .i64 0]) rfl rfl ty3 rfl rfl (b := b4) zM rfl rfl zU ?_
  refine W_storeA (l' := zSpot.v) rfl rfl ty32 rfl rfl (b := b5) zM (by exact Nat.le_refl 4) rfl zU ?_
  refine W_store (l' := [.bool false]) rfl rfl ty4 rfl rfl (b := b6) zM rfl rfl zU ?_
  refine W_nil ?_
  refine W_ret3G (H2 := HB2 ++ H) Tryz.results45 (.cons zT (.nil _)) (.one rfl ty3 rfl (Cell.own (b := b4) zM rfl)) (.own rfl ty32 rfl (b := b5) zM rfl) (.one rfl ty4 rfl (Cell.own (b := b6) zM rfl)) zH ?_
  exact ⟨HB2, hB2, by unfold findV; rw [findK_none hJ1], rfl⟩
def CatchIs (Ws : List Wl) (cpu : Int) (a : Nat) (Ws' : List Wl) (O : List Tm) : Prop :=
 (wlAt Ws cpu = none ∧ Ws' = Ws ∧ O = []) ∨ ∃ (k : Nat) (w : Wl) (Li : List Tm), cpu = (k : Int) ∧ Ws[k]? = some w ∧ Gone w.now (max w.now a) w.L Li O ∧ Ws' = Ws.set k ⟨w.bw, max w.now a, Li, w.turn⟩
theorem wlAt_at {Ws : List Wl} {cpu : Int} {w : Wl} (h : wlAt Ws cpu = some w) : ∃ k : Nat, cpu = (k : Int) ∧ Ws[k]? = some w := by
 unfold wlAt at h
 by_cases c : 0 ≤ cpu
 ·rw [if_pos c] at h
  exact ⟨cpu.toNat, by omega, h⟩
 ·rw [if_neg c] at h; cases h
theorem ofV_none {Ws : List Wl} {cpu : Int} (h : wlAt Ws cpu = none) : ofV Ws cpu = .pointer none := by unfold ofV; rw [h]
theorem ofV_some {Ws : List Wl} {cpu : Int} {w : Wl} (h : wlAt Ws cpu = some w) : ofV Ws cpu = w.p := by unfold ofV; rw [h]
inductive PutIs (Ws : List Wl) (cpu id : Int) (a : Nat) : List Wl → Spot → Int → Prop
 | cpu (h : wlAt Ws cpu = none) : PutIs Ws cpu id a Ws zSpot 2
 | twice {w : Wl} {k : Nat} (h : wlAt Ws cpu = some w) (hf : findK Ws id = some k) : PutIs Ws cpu id a Ws zSpot 5
 | range {w : Wl} (h : wlAt Ws cpu = some w) (hf : findK Ws id = none) (hr : ¬ (0 ≤ id ∧ id < 256)) : PutIs Ws cpu id a Ws zSpot 2
 | late {w : Wl} (h : wlAt Ws cpu = some w) (hf : findK Ws id = none) (hr : 0 ≤ id ∧ id < 256) (hm : w.now = 18446744073709551615) : PutIs Ws cpu id a Ws zSpot 12
 | ok {k : Nat} {w : Wl} (hc : cpu = (k : Int)) (hk : Ws[k]? = some w) (hf : findK Ws id = none) (hr : 0 ≤ id ∧ id < 256) (hm : w.now < 18446744073709551615) : PutIs Ws cpu id a (Ws.set k ⟨w.bw, w.now, w.L ++ [tmOf w.now a w.turn id], w.turn + 1⟩) (placeT w.now a).1 0
theorem findK_no {Ws : List Wl} {id : Int} (h : findK Ws id = none) {w : Wl} (hw : w ∈ Ws) : id ∉ w.L.map (·.id) := fun hin => by
 unfold findK at h
 rw [List.findIdx?_eq_none_iff] at h
 have := h w hw
 rw [heldB_iff.2 hin] at this; cases this
theorem CatchB_L {w0 : World} {H : Heap} {HB : Heap} {bb : Nat} {Ws : List Wl} (hB : BankH bb Ws HB) {cpu : Int} {a : Nat} (ha : a ≤ 18446744073709551615) (hd : ∀ w ∈ Ws, ∀ t ∈ w.L, w.now < t.s.due) (hT : Tab w0) : LCalls Tryz.prog w0 47 #[.pointer (some ⟨bb, 0, none⟩), .int .i64 cpu, .int .u64 ((a : Nat) : Int)] (HB ++ H) (fun v H' => ∃ (Ws' : List Wl) (HB' : Heap) (O : List Tm) (XO : Heap), BankH bb Ws' HB' ∧ OwnS 3 1 v O.length ((O.map (·.id)).map (Value.int .i64)) XO ∧ CatchIs Ws cpu a Ws' O ∧ H' = XO ++ (HB' ++ H)) := by
 refine L_enter (l := [.pointer (some ⟨bb, 0, none⟩), .int .i64 cpu, .int .u64 ((a : Nat) : Int)]) Tryz.func47 rfl Tryz.ntmps47 rfl rfl ?_
 refine W_sr ?_
 refine W_assign rfl rfl ?_
 refine W_nil (W_sr ?_)
 refine W_move rfl rfl ?_
 refine W_move rfl rfl ?_
 refine W_callq (.cons rfl (.cons rfl .nil)) Tryz.call75 rfl (of_q (cpu := cpu) hB (fun p hp => List.mem_append_left _ hp)) ?_
 rcases hwl : wlAt Ws cpu with _ | w
 ·skip
  rw [ofV_none hwl]
  refine W_move rfl rfl ?_
  refine W_callp (.cons rfl (.cons rfl .nil)) Tryz.call86 rfl (T := fun _ => True) trivial To_nilp ?_
  refine W_assign rfl rfl ?_
  refine W_nil ?_
  refine W_ret1m Tryz.results47 rfl (.nil _) (.refl _) ?_
  exact ⟨Ws, HB, [], [], hB, .nil, .inl ⟨hwl, rfl, rfl⟩, rfl⟩
 ·skip
  rw [ofV_some hwl]
  obtain ⟨k, hck, hwk⟩ := wlAt_at hwl
  obtain ⟨HW, HR, hW, hs1, hs2⟩ := hB.at hwk
  refine W_move rfl rfl ?_
  refine W_hsub (hs1 H) ?_
  refine W_call (.cons rfl (.cons rfl .nil)) Tryz.call86 rfl (To_any (a := a) hT hW (hd w (List.mem_of_getElem? hwk)) ha (H := HR ++ H)) ?_
  rintro v H' ⟨O, Li, HW', XO, hW', hG, hO, rfl⟩
  obtain ⟨HB', hB', hs3⟩ := hs2 ⟨w.bw, max w.now a, Li, w.turn⟩ HW' rfl hW'
  refine W_hsub (HSub.app (TakeS.here _) (hs3 H)) ?_
  refine W_assign rfl rfl ?_
  refine W_nil ?_
  refine W_ret1m Tryz.results47 rfl (.nil _) (.refl _) ?_
  exact ⟨_, HB', O, XO, hB', hO, .inr ⟨k, w, Li, hck, hwk, hG, rfl⟩, rfl⟩
def nowK (Ws : List Wl) (cpu : Int) : Nat := match wlAt Ws cpu with
 | some w => w.now
 | none => 0
theorem now_q3 {w0 : World} {H HW : Heap} {bw now turn : Nat} {L : List Tm} (hW : WheelH bw now L turn HW) (hm : ∀ p ∈ HW, p ∈ H) : PureAt Tryz.prog w0 H 76 [.pointer (some ⟨bw, 0, none⟩)] (.int .u64 ((now : Nat) : Int)) := by
 cases hW with
 | @mk bm c sl XS bs l h => exact Now_q (sl := sl) (bs := bs) (bm := bm) (turn := turn) (hm _ List.mem_cons_self)
theorem NowB_q {w0 : World} {H : Heap} {HB : Heap} {bb : Nat} {Ws : List Wl} (hB : BankH bb Ws HB) (hm : ∀ p ∈ HB, p ∈ H) {cpu : Int}  : PureAt Tryz.prog w0 H 40 [.pointer (some ⟨bb, 0, none⟩), .int .i64 cpu] (.int .u64 ((nowK Ws cpu : Nat) : Int)) := by
 refine L_enter Tryz.func40 rfl Tryz.ntmps40 rfl rfl ?_
 refine W_sr ?_
 refine W_assign rfl rfl ?_
 refine W_nil (W_sr ?_)
 refine W_move rfl rfl ?_
 refine W_move rfl rfl ?_
 refine W_callq (.cons rfl (.cons rfl .nil)) Tryz.call75 rfl (of_q (cpu := cpu) hB hm) ?_
 rcases hwl : wlAt Ws cpu with _ | w
 ·skip
  rw [ofV_none hwl]
  refine W_callp (.cons rfl .nil) Tryz.call76 rfl (T := fun _ => True) trivial Now_nil ?_
  refine W_assign rfl rfl ?_
  refine W_nil ?_
  refine W_ret1m (H2 := H) Tryz.results40 rfl (.nil _) zH ?_
  exact ⟨by unfold nowK; rw [hwl]; rfl, rfl⟩
 ·skip
  rw [ofV_some hwl]
  obtain ⟨k, hck, hwk⟩ := wlAt_at hwl
  obtain ⟨HW, hW, hmw⟩ := hB.wheel hwk
  refine W_callq (.cons rfl .nil) Tryz.call76 rfl (now_q3 hW (fun p hp => hm p (hmw p hp))) ?_
  refine W_assign rfl rfl ?_
  refine W_nil ?_
  refine W_ret1m (H2 := H) Tryz.results40 rfl (.nil _) zH ?_
  exact ⟨by unfold nowK; rw [hwl], rfl⟩
theorem findK_at {Ws : List Wl} {id : Int} {k : Nat} (h : findK Ws id = some k) : ∃ w, Ws[k]? = some w ∧ heldB w.L id = true := by
 unfold findK at h
 obtain ⟨h1, h2, _⟩ := List.findIdx?_eq_some_iff_getElem.1 h
 exact ⟨Ws[k], List.getElem?_eq_getElem h1, h2⟩
theorem wheel_now {bw now turn : Nat} {L : List Tm} {HW : Heap} (h : WheelH bw now L turn HW) : True := trivial
theorem put_ways3 (nw : Nat) (hn : nw ≤ 18446744073709551615) (id : Int) : ¬ (0 ≤ id ∧ id < 256) ∨ ((0 ≤ id ∧ id < 256) ∧ nw = 18446744073709551615) ∨ ((0 ≤ id ∧ id < 256) ∧ nw < 18446744073709551615) := by
 by_cases h1 : 0 ≤ id ∧ id < 256
 ·rcases Nat.lt_or_eq_of_le hn with h3 | h3
  ·exact .inr (.inr ⟨h1, h3⟩)
  ·exact .inr (.inl ⟨h1, h3⟩)
 ·exact .inl h1
theorem Put_late' {w0 : World} {H HW : Heap} {bw turn a nw : Nat} {L : List Tm} {id : Int} (hW : WheelH bw nw L turn HW) (hid : 0 ≤ id ∧ id < 256) (ha : a ≤ 18446744073709551615) (hnew : id ∉ L.map (·.id)) (hm : nw = 18446744073709551615) :
  LCalls Tryz.prog w0 79 #[.pointer (some ⟨bw, 0, none⟩), .int .i64 id, .int .u64 ((a : Nat) : Int)] (HW ++ H) (fun v H' => v = .tuple #[.agg zSpot.v.toArray, .int .i64 12] ∧ H' = HW ++ H) := by
 subst hm; exact Put_late hW hid ha hnew
theorem PutB_L {w0 : World} {H : Heap} {HB : Heap} {bb : Nat} {Ws : List Wl} (hB : BankH bb Ws HB) (hn64 : Ws.length ≤ 64) {cpu id : Int} {a : Nat} (ha : a ≤ 18446744073709551615) (hnow : ∀ w ∈ Ws, w.now ≤ 18446744073709551615) (htn : ∀ w ∈ Ws, w.turn ≤ 4611686018427387904)  : LCalls Tryz.prog w0 42 #[.pointer (some ⟨bb, 0, none⟩), .int .i64 cpu, .int .i64 id, .int .u64 ((a : Nat) : Int)] (HB ++ H) (fun v H' => ∃ (Ws' : List Wl) (HB' : Heap) (s : Spot) (e : Int), BankH bb Ws' HB' ∧ v = .tuple #[.agg s.v.toArray, .int .i64 e] ∧ PutIs Ws cpu id a Ws' s e ∧ H' = HB' ++ H) := by
 refine L_enter (l := [.pointer (some ⟨bb, 0, none⟩), .int .i64 cpu, .int .i64 id, .int .u64 ((a : Nat) : Int)]) Tryz.func42 rfl Tryz.ntmps42 rfl rfl ?_
 refine W_sr ?_
 refine W_alloc (l := zSpot.v) ty32 rfl rfl (fun b8 => ?_)
 refine W_assign rfl rfl ?_
 refine W_nil (W_sr ?_)
 refine W_move rfl rfl ?_
 refine W_move rfl rfl ?_
 refine W_callq (.cons rfl (.cons rfl .nil)) Tryz.call75 rfl (of_q (cpu := cpu) hB (fun p hp => List.mem_cons_of_mem _ (List.mem_append_left _ hp))) ?_
 rcases hwl : wlAt Ws cpu with _ | w
 ·skip
  rw [ofV_none hwl]
  refine W_assign rfl rfl ?_
  refine W_nil (W_seq ?_)
  refine W_block (W_sr ?_)
  refine W_move rfl rfl ?_
  refine W_x (X_ptrNil rfl rfl ty84) (fun _ h => by cases h) rfl ?_
  refine W_assign rfl rfl ?_
  refine W_nil ?_
  refine W_condF rfl rfl ?_
  refine W_sr ?_
  refine W_move rfl rfl ?_
  refine W_x (X_ptrNil rfl rfl ty133) (fun _ h => by cases h) rfl ?_
  refine W_assign rfl rfl ?_
  refine W_nil ?_
  refine W_condT rfl rfl ?_
  refine W_sr ?_
  refine W_build ty32 pl32 .nil rfl zF rfl ?_
  refine W_storeA (l' := zSpot.v) rfl rfl ty32 rfl rfl (b := b8) zM (by exact Nat.le_refl 4) rfl zU ?_
  refine W_assign rfl rfl ?_
  refine W_nil ?_
  refine W_ret2G (H2 := HB ++ H) Tryz.results42 (.nil _) (.own rfl ty32 rfl zM rfl) (.tmp rfl) zH ?_
  exact ⟨Ws, HB, zSpot, 2, hB, rfl, .cpu hwl, rfl⟩
 ·skip
  rw [ofV_some hwl]
  obtain ⟨k, hck, hwk⟩ := wlAt_at hwl
  refine W_assign rfl rfl ?_
  refine W_nil (W_seq ?_)
  refine W_block (W_sr ?_)
  refine W_move rfl rfl ?_
  refine W_x (X_ptrNil rfl rfl ty84) (fun _ h => by cases h) rfl ?_
  refine W_assign rfl rfl ?_
  refine W_nil ?_
  refine W_condF rfl rfl ?_
  refine W_sr ?_
  refine W_move rfl rfl ?_
  refine W_x (X_ptrNil rfl rfl ty133) (fun _ h => by cases h) rfl ?_
  refine W_assign rfl rfl ?_
  refine W_nil ?_
  refine W_condF rfl rfl ?_
  refine W_skip ?_
  refine W_blk ?_
  refine W_seq (W_sr ?_)
  refine W_move rfl rfl ?_
  refine W_move rfl rfl ?_
  refine W_call (.cons rfl (.cons rfl .nil)) Tryz.call45 rfl (LCalls.hsub (FindB_L (id := id) hB hn64 (H := (b8, .cells 32 4 zSpot.v) :: H)) zH) ?_
  rintro v H' ⟨HB1, hB1, rfl, rfl⟩
  rcases hfk : findK Ws id with _ | kf
  ·skip
   rw [show findV Ws id = .tuple #[.int .i64 0, .agg zSpot.v.toArray, .bool false] from by unfold findV; rw [hfk]]
   obtain ⟨HW1, HR1, hW1, hs3, hs4⟩ := hB1.at hwk
   have hno := findK_no hfk (List.mem_of_getElem? hwk)
   have hnm := wheel_now hW1
   refine W_move rfl rfl ?_
   refine W_extract rfl rfl rfl ?_
   refine W_extract rfl rfl rfl ?_
   refine W_extract rfl rfl rfl ?_
   refine W_alloc (l := zSpot.v) ty32 rfl rfl (fun b12 => ?_)
   refine W_assign rfl rfl ?_
   refine W_storeA (l' := zSpot.v) rfl rfl ty32 rfl rfl (b := b12) zM (by exact Nat.le_refl 4) rfl zU ?_
   refine W_assign rfl rfl ?_
   refine W_nil (W_sr ?_)
   refine W_move rfl rfl ?_
   refine W_nil ?_
   refine W_condF rfl rfl ?_
   refine W_skip (W_sr ?_)
   refine W_hsub (H' := HB1 ++ ((b8, .cells 32 4 zSpot.v) :: H)) zH ?_
   rcases put_ways3 w.now (hnow w (List.mem_of_getElem? hwk)) id with hr | ⟨hr, hnm2⟩ | ⟨hr, hlt⟩
   ·skip
    refine W_move rfl rfl ?_
    refine W_move rfl rfl ?_
    refine W_move rfl rfl ?_
    refine W_callp (.cons rfl (.cons rfl (.cons rfl .nil))) Tryz.call79 rfl (T := fun _ => True) trivial (Put_range (bw := w.bw) (id := id) (z := (a : Int)) zO) ?_
    refine W_extract rfl rfl rfl ?_
    refine W_extract rfl rfl rfl ?_
    refine W_storeA (l' := zSpot.v) rfl rfl ty32 rfl rfl (b := b8) zM (by exact Nat.le_refl 4) rfl zU ?_
    refine W_assign rfl rfl ?_
    refine W_nil ?_
    refine W_ret2G (H2 := HB1 ++ H) Tryz.results42 (.nil _) (.own rfl ty32 rfl zM rfl) (.tmp rfl) zH ?_
    exact ⟨Ws, HB1, zSpot, 2, hB1, rfl, .range hwl hfk hr, rfl⟩
   ·skip
    refine W_move rfl rfl ?_
    refine W_move rfl rfl ?_
    refine W_move rfl rfl ?_
    refine W_hsub (H' := HW1 ++ ((b8, .cells 32 4 zSpot.v) :: (HR1 ++ H))) ((hs3 ((b8, .cells 32 4 zSpot.v) :: H)).trans zH) ?_
    refine W_call (.cons rfl (.cons rfl (.cons rfl .nil))) Tryz.call79 rfl (Put_late' (a := a) hW1 hr ha hno hnm2 (H := (b8, .cells 32 4 zSpot.v) :: (HR1 ++ H))) ?_
    rintro v H' ⟨rfl, rfl⟩
    obtain ⟨HB2, hB2, hs5⟩ := hs4 w HW1 rfl hW1
    rw [set_same hwk] at hB2
    refine W_hsub (H' := (b8, .cells 32 4 zSpot.v) :: (HB2 ++ H)) ((show HSub _ ((b8, .cells 32 4 zSpot.v) :: (HW1 ++ (HR1 ++ H))) from zH).trans (.cons (.here _) (hs5 H))) ?_
    refine W_extract rfl rfl rfl ?_
    refine W_extract rfl rfl rfl ?_
    refine W_storeA (l' := zSpot.v) rfl rfl ty32 rfl rfl (b := b8) zM (by exact Nat.le_refl 4) rfl zU ?_
    refine W_assign rfl rfl ?_
    refine W_nil ?_
    refine W_ret2G (H2 := HB2 ++ H) Tryz.results42 (.nil _) (.own rfl ty32 rfl zM rfl) (.tmp rfl) zH ?_
    exact ⟨Ws, HB2, zSpot, 12, hB2, rfl, .late hwl hfk hr hnm2, rfl⟩
   ·skip
    refine W_move rfl rfl ?_
    refine W_move rfl rfl ?_
    refine W_move rfl rfl ?_
    refine W_hsub (H' := HW1 ++ ((b8, .cells 32 4 zSpot.v) :: (HR1 ++ H))) ((hs3 ((b8, .cells 32 4 zSpot.v) :: H)).trans zH) ?_
    refine W_call (.cons rfl (.cons rfl (.cons rfl .nil))) Tryz.call79 rfl (Put_L (a := a) hW1 hlt ha hr hno (htn w (List.mem_of_getElem? hwk)) (H := (b8, .cells 32 4 zSpot.v) :: (HR1 ++ H))) ?_
    rintro v H' ⟨HW2, hW2, rfl, rfl⟩
    obtain ⟨HB2, hB2, hs5⟩ := hs4 ⟨w.bw, w.now, w.L ++ [tmOf w.now a w.turn id], w.turn + 1⟩ HW2 rfl hW2
    refine W_hsub (H' := (b8, .cells 32 4 zSpot.v) :: (HB2 ++ H)) ((show HSub _ ((b8, .cells 32 4 zSpot.v) :: (HW2 ++ (HR1 ++ H))) from zH).trans (.cons (.here _) (hs5 H))) ?_
    refine W_extract rfl rfl rfl ?_
    refine W_extract rfl rfl rfl ?_
    refine W_storeA (l' := (placeT w.now a).1.v) rfl rfl ty32 rfl rfl (b := b8) zM (by exact Nat.le_refl 4) rfl zU ?_
    refine W_assign rfl rfl ?_
    refine W_nil ?_
    refine W_ret2G (H2 := HB2 ++ H) Tryz.results42 (.nil _) (.own rfl ty32 rfl zM rfl) (.tmp rfl) zH ?_
    exact ⟨_, HB2, _, 0, hB2, rfl, .ok hck hwk hfk hr hlt, rfl⟩
  ·skip
   obtain ⟨wf, hwf, hfh⟩ := findK_at hfk
   rw [show findV Ws id = .tuple #[.int .i64 (kf : Int), .agg (spotOf wf.L id).v.toArray, .bool true] from by unfold findV; rw [hfk]; dsimp only; rw [hwf]]
   refine W_move rfl rfl ?_
   refine W_extract rfl rfl rfl ?_
   refine W_extract rfl rfl rfl ?_
   refine W_extract rfl rfl rfl ?_
   refine W_alloc (l := zSpot.v) ty32 rfl rfl (fun b12 => ?_)
   refine W_assign rfl rfl ?_
   refine W_storeA (l' := (spotOf wf.L id).v) rfl rfl ty32 rfl rfl (b := b12) zM (by exact Nat.le_refl 4) rfl zU ?_
   refine W_assign rfl rfl ?_
   refine W_nil (W_sr ?_)
   refine W_move rfl rfl ?_
   refine W_nil ?_
   refine W_condT rfl rfl ?_
   refine W_sr ?_
   refine W_build ty32 pl32 .nil rfl zF rfl ?_
   refine W_storeA (l' := zSpot.v) rfl rfl ty32 rfl rfl (b := b8) zM (by exact Nat.le_refl 4) rfl zU ?_
   refine W_assign rfl rfl ?_
   refine W_nil ?_
   refine W_ret2G (H2 := HB1 ++ H) Tryz.results42 (.nil _) (.own rfl ty32 rfl zM rfl) (.tmp rfl) zH ?_
   exact ⟨Ws, HB1, zSpot, 5, hB1, rfl, .twice hwl hfk, rfl⟩
theorem delc_pure {x y : Value} : Pure Tryz.prog (fun _ => True) 101 [x, y] (.bool true) := by
 intro w0 H hT
 refine L_enter Tryz.func101 rfl Tryz.ntmps101 rfl rfl ?_
 refine W_sr ?_
 refine W_assign rfl rfl ?_
 refine W_nil (W_sr ?_)
 refine W_assign rfl rfl ?_
 refine W_nil ?_
 refine W_ret1m (H2 := H) Tryz.results101 rfl (.nil _) zH ?_
 exact ⟨rfl, rfl⟩
theorem BankH.lens {bb : Nat} {Ws : List Wl} {HB : Heap} (h : BankH bb Ws HB) : ∀ w ∈ Ws, w.L.length ≤ 256 := fun w hw => by
 obtain ⟨k, hk, e⟩ := List.getElem_of_mem hw
 obtain ⟨HW, hW, _⟩ := h.wheel (k := k) (w := w) (by rw [List.getElem?_eq_getElem hk, e])
 exact hW.ids.2.2.2
def delW (l : List Int) (w : Wl) : Wl := ⟨w.bw, w.now, (delsT w.L l).1, w.turn⟩
def delK (Ws : List Wl) (l : List Int) (k : Nat) : List Wl := (Ws.take k).map (delW l) ++ Ws.drop k
theorem delK_len (Ws : List Wl) (l : List Int) (k : Nat) : (delK Ws l k).length = Ws.length := by
 unfold delK
 rw [List.length_append, List.length_map, List.length_take, List.length_drop]; omega
theorem delK_at {Ws : List Wl} {l : List Int} {k : Nat} {w : Wl} (h : Ws[k]? = some w) : (delK Ws l k)[k]? = some w := by
 have hk := (List.getElem?_eq_some_iff.1 h).1
 unfold delK
 rw [List.getElem?_append_right (by rw [List.length_map, List.length_take]; omega), List.length_map, List.length_take, Nat.min_eq_left (by omega), Nat.sub_self, List.getElem?_drop, Nat.add_zero, h]
theorem delK_set {Ws : List Wl} {l : List Int} {k : Nat} {w : Wl} (h : Ws[k]? = some w) : (delK Ws l k).set k (delW l w) = delK Ws l (k + 1) := by
 have hk := (List.getElem?_eq_some_iff.1 h).1
 have e : Ws.drop k = w :: Ws.drop (k + 1) := by
  rw [List.drop_eq_getElem_cons hk, (List.getElem?_eq_some_iff.1 h).2]
 unfold delK
 rw [takeAt h, List.map_append, e, List.set_append_right _ _ (by rw [List.length_map, List.length_take]; omega), List.length_map, List.length_take, Nat.min_eq_left (by omega), Nat.sub_self]
 simp
theorem delK_all (Ws : List Wl) (l : List Int) : delK Ws l Ws.length = Ws.map (delW l) := by
 unfold delK
 rw [List.take_length, List.drop_length, List.append_nil]
def cntK (Ws : List Wl) (l : List Int) : Nat → Nat
 | 0 => 0
 | k + 1 => cntK Ws l k + match Ws[k]? with
  | some w => (delsT w.L l).2
  | none => 0
theorem cntK_at {Ws : List Wl} {l : List Int} {k : Nat} {w : Wl} (h : Ws[k]? = some w) : cntK Ws l (k + 1) = cntK Ws l k + (delsT w.L l).2 := by
 show cntK Ws l k + (match Ws[k]? with | some w => (delsT w.L l).2 | none => 0) = _
 rw [h]
theorem delsT_le2 (L : List Tm) (l : List Int) : (delsT L l).2 ≤ l.length := by
 have := delsT_le L l l.length (Nat.le_refl _)
 rwa [List.take_length] at this
theorem cntK_le (Ws : List Wl) (l : List Int) : ∀ k, cntK Ws l k ≤ k * l.length
 | 0 => Nat.zero_le _
 | k + 1 => by
  have ih := cntK_le Ws l k
  rw [Nat.add_mul]
  show cntK Ws l k + (match Ws[k]? with | some w => (delsT w.L l).2 | none => 0) ≤ _
  refine Nat.add_le_add ih ?_
  cases hk : Ws[k]? with
  | none => exact Nat.zero_le _
  | some w => exact Nat.le_trans (delsT_le2 w.L l) (Nat.le_of_eq (Nat.one_mul _).symm)
theorem DelB_L {w0 : World} {H : Heap} {HB : Heap} {bb : Nat} {Ws : List Wl} (hB : BankH bb Ws HB) (hn64 : Ws.length ≤ 64) {l : List Int} {ad : Option Addr} {cap : Nat} (hl : l.length ≤ 4611686018427387904) (hl2 : l.length ≤ 1000000) (hrow : Holds w0 H ad (l.map (Value.int .i64)))  : LCalls Tryz.prog w0 77 #[.pointer (some ⟨bb, 0, none⟩), .slice ad l.length cap] (HB ++ H) (fun v H' => ∃ HB', BankH bb (Ws.map (delW l)) HB' ∧ v = .int .i64 (cntK Ws l Ws.length : Nat) ∧ H' = HB' ++ H) := by
 refine L_enter (l := [.pointer (some ⟨bb, 0, none⟩), .slice ad l.length cap]) Tryz.func77 rfl Tryz.ntmps77 rfl rfl ?_
 refine W_sr ?_
 refine W_box (l := [.slice ad l.length cap]) rfl rfl rfl (fun b3 => ?_)
 refine W_assign rfl rfl ?_
 refine W_nil (W_sr ?_)
 refine W_alloc (l := [.int .i64 0]) ty3 rfl rfl (fun b5 => ?_)
 refine W_store (l' := [.int .i64 0]) rfl rfl ty3 rfl rfl (b := b5) zM rfl rfl zU ?_
 refine W_nil (W_seq (W_sr ?_))
 refine W_move rfl rfl ?_
 refine W_call (.cons rfl (.cons rfl .nil)) Tryz.call83 rfl (such_L (b := .pointer (some ⟨bb, 0, none⟩)) (f := (Value.func (.func 101) #[] #[])) rfl rfl) ?_
 rintro v H' ⟨b2_, b3_, rfl, rfl⟩
 refine W_nil (W_block ?_)
 refine W_rangeFunc rfl Tryz.call107 ?_
 intro lp D r hst hpd hps hasg hbody hA
 have hr := loop_ready hst hpd
 show LCalls _ _ _ #[_, _, _] _ _
 refine ((such_iter (b2 := b2_) (b3 := b3_) (bb := bb) (n := Ws.length) (fi := 101) (ca := []) (Ws0 := Ws) (HB0 := HB) (H := (lp, .obj (.loop r)) :: (D, .obj (.deferred (some []))) :: (b5, .cells 3 1 [.int .i64 (0 : Int)]) :: (b3, .cells 24 1 [.slice ad l.length cap]) :: H) (fun k Ws2 Hr => Ws2 = delK Ws l k ∧ Hr = (lp, .obj (.loop r)) :: (D, .obj (.deferred (some []))) :: (b5, .cells 3 1 [.int .i64 ((cntK Ws l k : Nat) : Int)]) :: (b3, .cells 24 1 [.slice ad l.length cap]) :: H) (fun _ _ => False) (fun _ _ => true) Tryz.call101 hn64 (fun k Ws' Hr hJ => by rw [hJ.1, delK_len]) (fun k Ws2 HB2 Hr w hk hw hB2 hJ => delc_pure.at trivial) (fun k Ws2 Hr w hk hw hJ hs => by cases hs) ?_ hB ⟨by unfold delK; rw [List.take_zero, List.drop_zero]; rfl, rfl⟩).hsub zH).mono ?_
 ·intro k Ws2 HB2 Hr w hk hw hB2 hJ hs
  obtain ⟨rfl, rfl⟩ := hJ
  obtain ⟨w2, hw2⟩ : ∃ w2, Ws[k]? = some w2 := ⟨_, List.getElem?_eq_getElem hk⟩
  obtain rfl : w = w2 := Option.some.inj (hw.symm.trans (delK_at hw2))
  obtain ⟨HW, HR, hW, hs1, hs2⟩ := hB2.at hw
  have hc1 := cntK_le Ws l k
  have hc2 := delsT_le2 w.L l
  have hc3 := cntK_at (l := l) hw2
  have hc4 : k * l.length ≤ 64 * l.length := Nat.mul_le_mul_right _ zO
  refine round_intro hst hpd hA hps rfl hasg rfl rfl rfl zT ?_
  refine W_region ?_
  refine W_assign rfl rfl ?_
  refine W_nil ?_
  refine W_begin hst hpd zT hbody ?_
  refine W_block ?_
  refine Rd.W_anyS [(b5, .cells 3 1 [.int .i64 ((cntK Ws l k : Nat) : Int)]), (b3, .cells 24 1 [.slice ad l.length cap])] 5 zk ?_
  refine Rd.WS_take 0 (l' := #[true, false, false, false, false, false]) rfl rfl zK zK zK zK zK rfl zK (X_load (v := .int .i64 (cntK Ws l k : Nat)) rfl ty3 rfl (Cell.own (b := b5) zM rfl)) rfl ?_
  refine Rd.WS_take 1 (l' := #[true, true, false, false, false, false]) rfl rfl zK zK zK zK zK rfl zK (X_move rfl) rfl ?_
  refine Rd.WS_take 2 (l' := #[true, true, true, false, false, false]) rfl rfl zK zK zK zK zK rfl zK (X_load (v := .slice ad l.length cap) rfl ty24 rfl (Cell.own (b := b3) zM rfl)) rfl ?_
  refine Rd.WS_one 3 (l' := #[true, true, true, true, false, false]) zH rfl zK rfl zK ?_
  refine W_hsub (H' := HW ++ (HR ++ ((lp, .obj (.loop (Loop.at r .busy none))) :: (b2_, .cells 84 1 [.pointer (some ⟨bb, 0, none⟩)]) :: (b3_, .cells 140 1 [(Value.func (.func 101) #[] #[])]) :: (D, .obj (.deferred (some []))) :: (b5, .cells 3 1 [.int .i64 ((cntK Ws l k : Nat) : Int)]) :: (b3, .cells 24 1 [.slice ad l.length cap]) :: H))) ((show HSub _ (HB2 ++ ((lp, .obj (.loop (Loop.at r .busy none))) :: (b2_, .cells 84 1 [.pointer (some ⟨bb, 0, none⟩)]) :: (b3_, .cells 140 1 [(Value.func (.func 101) #[] #[])]) :: (D, .obj (.deferred (some []))) :: (b5, .cells 3 1 [.int .i64 ((cntK Ws l k : Nat) : Int)]) :: (b3, .cells 24 1 [.slice ad l.length cap]) :: H)) from zH).trans (hs1 _)) ?_
  refine W_call (.cons rfl (.cons rfl .nil)) Tryz.call102 rfl (Del_L (l := l) hW hl (H := HR ++ ((lp, .obj (.loop (Loop.at r .busy none))) :: (b2_, .cells 84 1 [.pointer (some ⟨bb, 0, none⟩)]) :: (b3_, .cells 140 1 [(Value.func (.func 101) #[] #[])]) :: (D, .obj (.deferred (some []))) :: (b5, .cells 3 1 [.int .i64 ((cntK Ws l k : Nat) : Int)]) :: (b3, .cells 24 1 [.slice ad l.length cap]) :: H)) (hrow.up zH)) ?_
  rintro v H' ⟨HW', hW', rfl, rfl⟩
  obtain ⟨HB3, hB3, hs3⟩ := hs2 (delW l w) HW' rfl hW'
  rw [delK_set hw2] at hB3
  refine W_hsub (hs3 _) ?_
  refine W_nil ?_
  refine Rd.WS_goal ?_
  refine Rd.WS_take 4 (l' := #[true, true, true, true, true, false]) rfl rfl (by decide +kernel) (by decide +kernel) (by decide +kernel) (by decide +kernel) (by decide +kernel) rfl (by decide +kernel) (X_bin rfl rfl (b_add (m := ((cntK Ws l (k + 1) : Nat) : Int)) (by rw [i64w (by omega)]; omega))) rfl ?_
  refine Rd.WS_last (l' := #[true, true, true, true, true, true]) zH zK rfl zK ?_
  refine W_store (l' := [.int .i64 (cntK Ws l (k + 1) : Nat)]) rfl rfl ty3 rfl rfl (b := b5) zM rfl rfl zU ?_
  refine W_nil ?_
  refine Rd.WC_goal ?_
  refine Rd.WC_done (.nil _) zK ?_
  refine W_blk ?_
  refine W_endround zT ?_
  rw [hr]
  exact ⟨delK Ws l (k + 1), HB3, (lp, .obj (.loop r)) :: (D, .obj (.deferred (some []))) :: (b5, .cells 3 1 [.int .i64 ((cntK Ws l (k + 1) : Nat) : Int)]) :: (b3, .cells 24 1 [.slice ad l.length cap]) :: H, hB3, zH, .inl ⟨rfl, rfl, rfl⟩⟩
 ·intro _ H' hp
  obtain ⟨Ws2, HB2, Hr, hB2, hs, hJS⟩ := hp
  obtain ⟨rfl, rfl⟩ := hJS.resolve_right (fun h => h)
  rw [delK_all] at hB2
  refine ⟨.ready, none, (b2_, .cells 84 1 [.pointer (some ⟨bb, 0, none⟩)]) :: (b3_, .cells 140 1 [(Value.func (.func 101) #[] #[])]) :: (HB2 ++ ((D, .obj (.deferred (some []))) :: (b5, .cells 3 1 [.int .i64 ((cntK Ws l Ws.length : Nat) : Int)]) :: (b3, .cells 24 1 [.slice ad l.length cap]) :: H)), by rw [hr]; exact hs.trans zH, by decide, ?_⟩
  show W _ _ _ _ _ _ _ _ _
  refine W_blk ?_
  refine W_sr ?_
  refine W_load (v := .int .i64 (cntK Ws l Ws.length : Nat)) rfl ty3 rfl (Cell.own (b := b5) zM rfl) rfl ?_
  refine W_assign rfl rfl ?_
  refine W_nil ?_
  refine W_ret1m (H2 := HB2 ++ H) Tryz.results77 rfl (.cons zT (.nil _)) zH ?_
  exact ⟨HB2, hB2, rfl, rfl⟩
theorem PutIs.ok_of {Ws Ws' : List Wl} {cpu id e : Int} {a k : Nat} {s : Spot} {w : Wl} (h : PutIs Ws cpu id a Ws' s e) (hc : cpu = (k : Int)) (hk : Ws[k]? = some w) (hf : findK Ws id = none) (hr : 0 ≤ id ∧ id < 256) (hm : w.now < 18446744073709551615) : Ws' = Ws.set k ⟨w.bw, w.now, w.L ++ [tmOf w.now a w.turn id], w.turn + 1⟩ ∧ s = (placeT w.now a).1 ∧ e = 0 := by
 have hw : wlAt Ws cpu = some w := by unfold wlAt; rw [if_pos (by omega), show cpu.toNat = k by omega, hk]
 cases h with
 | cpu h => rw [hw] at h; cases h
 | twice h h2 => rw [hf] at h2; cases h2
 | range h _ h2 => exact absurd hr h2
 | late h _ _ h2 =>
  rw [hw] at h
  obtain rfl := Option.some.inj h
  omega
 | @ok k2 w2 hc2 hk2 _ _ _ =>
  obtain rfl : k = k2 := by omega
  obtain rfl : w = w2 := Option.some.inj (hk.symm.trans hk2)
  exact ⟨rfl, rfl, rfl⟩
end Go.Proofs.YtcmfldfeakmdoaaGreatDoor
