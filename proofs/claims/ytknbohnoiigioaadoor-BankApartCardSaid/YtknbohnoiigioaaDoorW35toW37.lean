/-
  Own work: contracts of functions that the statement reaches, and plain facts on what they compute; each theorem says its conditions.
-/
import Derived.Test.YtknbohnoiigioaaDoorW32toW34
set_option linter.all false
set_option linter.unusedSimpArgs false
set_option linter.unusedVariables false
namespace Go.Proofs.YtknbohnoiigioaaDoor
open Go Go.Sl
attribute [local irreducible] W
/-- the timers that a law puts: numbers from 0 on -/
def putsT (now : Nat) (l : List Int) : Nat → List Tm
  | 0 => []
  | i + 1 => putsT now l i ++ [tmOf now (l.getD i 0).toNat i (i : Int)]
theorem puts_len (now : Nat) (l : List Int) : ∀ i, (putsT now l i).length = i
  | 0 => rfl
  | i + 1 => by
    show (putsT now l i ++ _).length = _
    rw [List.length_append, puts_len now l i]; rfl
theorem puts_ids (now : Nat) (l : List Int) : ∀ i, (putsT now l i).map (·.id) = (List.range i).map (fun j : Nat => (j : Int))
  | 0 => rfl
  | i + 1 => by
    show (putsT now l i ++ _).map _ = _
    rw [List.map_append, puts_ids now l i, List.range_succ, List.map_append]; rfl
theorem puts_new (now : Nat) (l : List Int) (i : Nat) : (i : Int) ∉ (putsT now l i).map (·.id) := by
  rw [puts_ids, List.mem_map]
  rintro ⟨j, hj, e⟩
  have := List.mem_range.1 hj
  omega
theorem dueW {bw now turn : Nat} {L : List Tm} {HW : Heap} (h : WheelH bw now L turn HW) {t : Tm} (ht : t ∈ L) : t.s.due ≤ 18446744073709551615 := by
  cases h with
  | mk h =>
    obtain ⟨num, _, e, _⟩ := h.time t ht
    rw [e]; exact tickT_le _ _
set_option maxHeartbeats 4000000 in
theorem wheelNext_L {now : Nat} {l : List Int} {ad : Option Addr} {cap : Nat} (hwf : ∀ b ∈ l, 0 ≤ b ∧ b ≤ 18446744073709551615) (hcap : l.length ≤ 9223372036854775807) (hnow : now < 18446744073709551615) : Pure Tryd.prog (fun w => Tab w ∧ InRow w ad (l.map (Value.int .u64))) 3 [.int .u64 ((now : Nat) : Int), .slice ad l.length cap] (.bool true) := by
  intro w0 H hT
  have hrow : Holds w0 H ad (l.map (Value.int .u64)) := Holds.old hT.2
  replace hT := hT.1
  refine L_enter Tryd.func3 rfl Tryd.ntmps3 rfl rfl ?_
  refine W_sr ?_
  refine W_assign rfl rfl ?_
  refine W_nil ?_
  refine W_sr ?_
  refine W_move rfl rfl ?_
  refine W_call (.cons rfl .nil) Tryd.call13 rfl ((New_W (now := now) (H := H)).hsub (by repeat (first | with_reducible exact HSub.refl _ | refine HSub.cons (by repeat (first | exact Take.here _ | apply Take.next | apply Take.app)) ?_ | refine HSub.app (by repeat (first | with_reducible exact TakeS.here _ | apply TakeS.next | apply TakeS.app)) ?_ | exact HSub.nil _ | exact HSub.refl _ | refine HSub.drop ?_ | refine HSub.dropS ?_))) ?_
  rintro v H' ⟨bw1, HW1, rfl, hW1, rfl⟩
  refine W_assign rfl rfl ?_
  refine W_nil ?_
  refine W_seq ?_
  refine W_sr ?_
  refine W_assign rfl rfl ?_
  refine W_nil ?_
  refine W_block ?_
  refine W_loopC (X := (Nat × Heap)) [(0, _), (1, _), (5, _)] (fun (x : (Nat × Heap)) => [(6, .int .i64 (x.1 : Int))]) (fun _ => _) (fun (x : (Nat × Heap)) => x.2 ++ H) (fun (x : (Nat × Heap)) => x.1 ≤ l.length ∧ x.1 ≤ 100 ∧ WheelH bw1 now (putsT now l x.1) x.1 x.2) (fun (x : (Nat × Heap)) => l.length - x.1) (0, HW1) ⟨Nat.zero_le _, Nat.zero_le _, hW1⟩ (sub_cons rfl (sub_cons rfl (sub_cons rfl (sub_nil _)))) (sub_cons rfl (sub_nil _)) rfl (.refl _) ?_
  rintro ⟨i, HWi⟩ ⟨hi, hi2, hWi⟩
  dsimp only at hi hi2 hWi ⊢
  simp only [List.cons_append, List.nil_append]
  refine W_seq ?_
  refine W_sr ?_
  refine W_move rfl rfl ?_
  refine W_move rfl rfl ?_
  refine W_len rfl ty23 rfl rfl ?_
  refine W_bin rfl rfl b_lss rfl ?_
  refine W_move rfl rfl ?_
  apply W_and
  iterate 4 exact rfl
  case h1 =>
    intro hg4
    refine W_gyes rfl rfl ?_
    refine W_move rfl rfl ?_
    refine W_gyes rfl rfl ?_
    refine W_bin rfl rfl b_lss rfl ?_
    exact W_met rfl (by repeat (first | exact .refl | refine .cons rfl ?_))
  refine W_nil ?_
  refine W_condPS (p := (i : Int) < (l.length : Int) ∧ (i : Int) < 100) rfl (by first | exact Iff.rfl | simp) (fun q0 => ?_) (fun q0 => ?_)
  · skip
    refine W_skip ?_
    refine W_seq ?_
    refine W_block ?_
    refine W_region ?_
    obtain ⟨x_a, hx_a⟩ : ∃ x, l[i]? = some x := ⟨_, List.getElem?_eq_getElem (by omega)⟩
    obtain ⟨q0, p0, rfl, hc⟩ := hrow.at (i := i) (v := .int .u64 x_a) (by rw [List.getElem?_map, hx_a]; rfl)
    have ha0 := hwf x_a (List.mem_of_getElem? hx_a)
    have hg_a : (l.getD i 0) = x_a := by rw [List.getD_eq_getElem?_getD, hx_a]; rfl
    obtain ⟨a, rfl⟩ : ∃ a : Nat, x_a = (a : Int) := ⟨x_a.toNat, by omega⟩
    have ha : a ≤ 18446744073709551615 := by omega
    refine W_move rfl rfl ?_
    refine W_move rfl rfl ?_
    refine W_move rfl rfl ?_
    refine W_move rfl rfl ?_
    refine W_indexAddr (j := i) rfl rfl ty23 ty22 rfl (by omega) rfl rfl ?_
    refine W_load (v := .int .u64 ((a : Nat) : Int)) rfl ty22 rfl (by rw [Nat.mul_one]; exact hc.up (by repeat (first | with_reducible exact HSub.refl _ | refine HSub.cons (by repeat (first | exact Take.here _ | apply Take.next | apply Take.app)) ?_ | refine HSub.app (by repeat (first | with_reducible exact TakeS.here _ | apply TakeS.next | apply TakeS.app)) ?_ | exact HSub.nil _ | exact HSub.refl _ | refine HSub.drop ?_ | refine HSub.dropS ?_))) rfl ?_
    refine W_call (.cons rfl (.cons rfl (.cons rfl .nil))) Tryd.call14 rfl ((Put_L (id := (i : Int)) (a := a) hWi hnow ha (by omega) (puts_new now l i) (by omega)).hsub (.refl _)) ?_
    rintro v H' ⟨HW', hW', rfl, rfl⟩
    refine W_nil ?_
    refine W_blk ?_
    refine W_region ?_
    refine W_move rfl rfl ?_
    refine W_bin rfl rfl (b_add (m := ((i + 1 : Nat) : Int)) ((i64w (by omega)).trans (by omega))) rfl ?_
    refine W_assign rfl rfl ?_
    refine W_nil ?_
    refine W_again (i + 1, HW') ⟨by show i + 1 ≤ l.length; omega, by show i + 1 ≤ 100; omega, by show WheelH bw1 now (putsT now l (i + 1)) (i + 1) HW'; rw [show putsT now l (i + 1) = putsT now l i ++ [tmOf now a i (i : Int)] from by show _ ++ [tmOf now (l.getD i 0).toNat i (i : Int)] = _; rw [hg_a]; rfl]; exact hW'⟩ (by show l.length - (i + 1) < l.length - i; omega) (sub_cons rfl (sub_cons rfl (sub_cons rfl (sub_cons rfl (sub_nil _))))) rfl (.refl _)
  · skip
    refine W_exit rfl ?_
    refine W_sr ?_
    refine W_move rfl rfl ?_
    refine W_call (.cons rfl .nil) Tryd.call15 rfl (Next_W hT hWi (by omega)) ?_
    rintro v H' ⟨rfl, rfl⟩
    rcases hat : leastT (putsT now l i) with _ | at_
    · skip
      have hl0 : (putsT now l i) = [] := leastT_none.1 hat
      have hi0 : i = 0 := by rw [← puts_len now l i, hl0]; rfl
      refine W_move rfl rfl ?_
      refine W_extract rfl rfl rfl ?_
      refine W_extract rfl rfl rfl ?_
      refine W_assign rfl rfl ?_
      refine W_assign rfl rfl ?_
      refine W_nil ?_
      refine W_seq ?_
      refine W_sr ?_
      refine W_move rfl rfl ?_
      refine W_not rfl rfl ?_
      refine W_nil ?_
      refine W_condT rfl rfl ?_
      refine W_sr ?_
      refine W_callp .nil Tryd.call16 rfl hT known_pure ?_
      refine W_move rfl rfl ?_
      refine W_gyes rfl rfl ?_
      refine W_move rfl rfl ?_
      refine W_gyes rfl rfl ?_
      refine W_callq (.cons rfl .nil) Tryd.call17 rfl (Len_W hWi) ?_
      refine W_gyes rfl rfl ?_
      refine W_bin rfl rfl b_eql rfl ?_
      rw [hl0, decide_eq_true (by rfl)]
      first | refine W_pickt rfl rfl rfl ?_ | refine W_pickf rfl rfl rfl ?_
      refine W_move rfl rfl ?_
      refine W_gyes rfl rfl ?_
      refine W_move rfl rfl ?_
      refine W_gyes rfl rfl ?_
      refine W_len rfl ty23 rfl rfl ?_
      refine W_gyes rfl rfl ?_
      refine W_bin rfl rfl b_eql rfl ?_
      rw [decide_eq_true (by omega)]
      refine W_gyes rfl rfl ?_
      refine W_move rfl rfl ?_
      refine W_gno rfl rfl rfl ?_
      refine W_gno rfl rfl rfl ?_
      refine W_gyes rfl rfl ?_
      first | refine W_pickt rfl rfl rfl ?_ | refine W_pickf rfl rfl rfl ?_
      first | refine W_pickt rfl rfl rfl ?_ | refine W_pickf rfl rfl rfl ?_
      refine W_assign rfl rfl ?_
      refine W_nil ?_
      refine W_ret1m (H2 := H) Tryd.results3 rfl (.nil _) (by repeat (first | with_reducible exact HSub.refl _ | refine HSub.cons (by repeat (first | exact Take.here _ | apply Take.next | apply Take.app)) ?_ | refine HSub.app (by repeat (first | with_reducible exact TakeS.here _ | apply TakeS.next | apply TakeS.app)) ?_ | exact HSub.nil _ | exact HSub.refl _ | refine HSub.drop ?_ | refine HSub.dropS ?_)) ?_
      exact ⟨rfl, rfl⟩
    · skip
      have hids := hWi.ids
      have hlat := hWi.later hnow
      obtain ⟨⟨t0, ht0, e0⟩, hleast⟩ := leastT_is hat
      have hnat : now < at_ := by have := hlat t0 ht0; omega
      have hatm : at_ ≤ 18446744073709551615 := by rw [← e0]; exact dueW hWi ht0
      refine W_move rfl rfl ?_
      refine W_extract rfl rfl rfl ?_
      refine W_extract rfl rfl rfl ?_
      refine W_assign rfl rfl ?_
      refine W_assign rfl rfl ?_
      refine W_nil ?_
      refine W_seq ?_
      refine W_sr ?_
      refine W_move rfl rfl ?_
      refine W_not rfl rfl ?_
      refine W_nil ?_
      refine W_condF rfl rfl ?_
      refine W_skip ?_
      refine W_sr ?_
      refine W_callp .nil Tryd.call16 rfl hT known_pure ?_
      refine W_move rfl rfl ?_
      refine W_gyes rfl rfl ?_
      refine W_move rfl rfl ?_
      refine W_gyes rfl rfl ?_
      refine W_move rfl rfl ?_
      refine W_gyes rfl rfl ?_
      refine W_bin rfl rfl b_gtr rfl ?_
      rw [decide_eq_true (by simp; omega)]
      first | refine W_pickt rfl rfl rfl ?_ | refine W_pickf rfl rfl rfl ?_
      refine W_move rfl rfl ?_
      refine W_gyes rfl rfl ?_
      refine W_move rfl rfl ?_
      refine W_gyes rfl rfl ?_
      refine W_move rfl rfl ?_
      refine W_gyes rfl rfl ?_
      refine W_bin rfl rfl (b_sub (m := ((at_ - 1 : Nat) : Int)) (by rw [u64w (by simp; omega)]; simp; omega)) rfl ?_
      refine W_gyes rfl rfl ?_
      by_cases hc1 : at_ - 1 ≤ now
      · skip
        obtain ⟨row, HT, rfl, hrl, hr0, _⟩ := hWi.now
        refine W_callq (.cons rfl (.cons rfl .nil)) Tryd.call18 rfl (To_stay (now := now) (row := row) (tot := 523) (by repeat (first | exact List.mem_cons_self | apply List.mem_cons_of_mem | apply List.mem_append_right)) hr0 hc1) ?_
        refine W_gyes rfl rfl ?_
        refine W_len rfl ty35 rfl rfl ?_
        refine W_gyes rfl rfl ?_
        refine W_bin rfl rfl b_eql rfl ?_
        first | refine W_pickt rfl rfl rfl ?_ | refine W_pickf rfl rfl rfl ?_
        refine W_move rfl rfl ?_
        refine W_gyes rfl rfl ?_
        refine W_move rfl rfl ?_
        refine W_gyes rfl rfl ?_
        refine W_move rfl rfl ?_
        refine W_gyes rfl rfl ?_
        refine W_call (.cons rfl (.cons rfl .nil)) Tryd.call18 rfl ((To_L (a := at_) hWi (by omega) hatm hT).hsub (by repeat (first | with_reducible exact HSub.refl _ | refine HSub.cons (by repeat (first | exact Take.here _ | apply Take.next | apply Take.app)) ?_ | refine HSub.app (by repeat (first | with_reducible exact TakeS.here _ | apply TakeS.next | apply TakeS.app)) ?_ | exact HSub.nil _ | exact HSub.refl _ | refine HSub.drop ?_ | refine HSub.dropS ?_))) ?_
        rintro v H' ⟨O2, Li2, HWm, XO2, hWm, hG2, hO2, rfl⟩
        have hpos : 0 < O2.length := List.length_pos_of_mem (hG2.perm.mem_iff.2 (List.mem_filter.2 ⟨ht0, decide_eq_true (by rw [e0]; exact Nat.le_refl _)⟩))
        obtain ⟨ad2, cap2, rfl, _, _⟩ := hO2.shape
        refine W_gyes rfl rfl ?_
        refine W_len rfl ty35 rfl rfl ?_
        refine W_gyes rfl rfl ?_
        refine W_bin rfl rfl b_gtr rfl ?_
        rw [decide_eq_true (by first | omega | (simp; omega))]
        first | refine W_pickt rfl rfl rfl ?_ | refine W_pickf rfl rfl rfl ?_
        refine W_assign rfl rfl ?_
        refine W_nil ?_
        refine W_ret1m (H2 := H) Tryd.results3 rfl (.nil _) (by repeat (first | with_reducible exact HSub.refl _ | refine HSub.cons (by repeat (first | exact Take.here _ | apply Take.next | apply Take.app)) ?_ | refine HSub.app (by repeat (first | with_reducible exact TakeS.here _ | apply TakeS.next | apply TakeS.app)) ?_ | exact HSub.nil _ | exact HSub.refl _ | refine HSub.drop ?_ | refine HSub.dropS ?_)) ?_
        exact ⟨rfl, rfl⟩
      · skip
        refine W_call (.cons rfl (.cons rfl .nil)) Tryd.call18 rfl (To_L (a := at_ - 1) hWi (by omega) (by omega) hT) ?_
        rintro v H' ⟨O1, Li1, HWn, XO1, hWn, hG1, hO1, rfl⟩
        obtain rfl : O1 = [] := by
          have hp := hG1.perm
          rw [List.filter_eq_nil_iff.2 (fun t ht => by have := hleast t ht; simp; omega)] at hp
          exact hp.eq_nil
        obtain ⟨ad1, cap1, rfl, _, _⟩ := hO1.shape
        refine W_gyes rfl rfl ?_
        refine W_len rfl ty35 rfl rfl ?_
        refine W_gyes rfl rfl ?_
        refine W_bin rfl rfl b_eql rfl ?_
        first | refine W_pickt rfl rfl rfl ?_ | refine W_pickf rfl rfl rfl ?_
        refine W_move rfl rfl ?_
        refine W_gyes rfl rfl ?_
        refine W_move rfl rfl ?_
        refine W_gyes rfl rfl ?_
        refine W_move rfl rfl ?_
        refine W_gyes rfl rfl ?_
        refine W_call (.cons rfl (.cons rfl .nil)) Tryd.call18 rfl ((To_L (a := at_) hWn (by omega) hatm hT).hsub (by repeat (first | with_reducible exact HSub.refl _ | refine HSub.cons (by repeat (first | exact Take.here _ | apply Take.next | apply Take.app)) ?_ | refine HSub.app (by repeat (first | with_reducible exact TakeS.here _ | apply TakeS.next | apply TakeS.app)) ?_ | exact HSub.nil _ | exact HSub.refl _ | refine HSub.drop ?_ | refine HSub.dropS ?_))) ?_
        rintro v H' ⟨O2, Li2, HWm, XO2, hWm, hG2, hO2, rfl⟩
        have hpos : 0 < O2.length := List.length_pos_of_mem (hG2.perm.mem_iff.2 (List.mem_filter.2 ⟨by rw [hG1.left]; exact List.mem_filter.2 ⟨ht0, decide_eq_true (by omega)⟩, decide_eq_true (by rw [e0]; exact Nat.le_refl _)⟩))
        obtain ⟨ad2, cap2, rfl, _, _⟩ := hO2.shape
        refine W_gyes rfl rfl ?_
        refine W_len rfl ty35 rfl rfl ?_
        refine W_gyes rfl rfl ?_
        refine W_bin rfl rfl b_gtr rfl ?_
        rw [decide_eq_true (by first | omega | (simp; omega))]
        first | refine W_pickt rfl rfl rfl ?_ | refine W_pickf rfl rfl rfl ?_
        refine W_assign rfl rfl ?_
        refine W_nil ?_
        refine W_ret1m (H2 := H) Tryd.results3 rfl (.nil _) (by repeat (first | with_reducible exact HSub.refl _ | refine HSub.cons (by repeat (first | exact Take.here _ | apply Take.next | apply Take.app)) ?_ | refine HSub.app (by repeat (first | with_reducible exact TakeS.here _ | apply TakeS.next | apply TakeS.app)) ?_ | exact HSub.nil _ | exact HSub.refl _ | refine HSub.drop ?_ | refine HSub.dropS ?_)) ?_
        exact ⟨rfl, rfl⟩
set_option maxHeartbeats 4000000 in
theorem wheelNext_M {now : Nat} {l : List Int} {ad : Option Addr} {cap : Nat} (hwf : ∀ b ∈ l, 0 ≤ b ∧ b ≤ 18446744073709551615) (hcap : l.length ≤ 9223372036854775807) : Pure Tryd.prog (fun w => Tab w ∧ InRow w ad (l.map (Value.int .u64))) 3 [.int .u64 ((18446744073709551615 : Nat) : Int), .slice ad l.length cap] (.bool true) := by
  intro w0 H hT
  have hrow : Holds w0 H ad (l.map (Value.int .u64)) := Holds.old hT.2
  replace hT := hT.1
  refine L_enter Tryd.func3 rfl Tryd.ntmps3 rfl rfl ?_
  refine W_sr ?_
  refine W_assign rfl rfl ?_
  refine W_nil ?_
  refine W_sr ?_
  refine W_move rfl rfl ?_
  refine W_call (.cons rfl .nil) Tryd.call13 rfl ((New_W (now := 18446744073709551615) (H := H)).hsub (by repeat (first | with_reducible exact HSub.refl _ | refine HSub.cons (by repeat (first | exact Take.here _ | apply Take.next | apply Take.app)) ?_ | refine HSub.app (by repeat (first | with_reducible exact TakeS.here _ | apply TakeS.next | apply TakeS.app)) ?_ | exact HSub.nil _ | exact HSub.refl _ | refine HSub.drop ?_ | refine HSub.dropS ?_))) ?_
  rintro v H' ⟨bw1, HW1, rfl, hW1, rfl⟩
  refine W_assign rfl rfl ?_
  refine W_nil ?_
  refine W_seq ?_
  refine W_sr ?_
  refine W_assign rfl rfl ?_
  refine W_nil ?_
  refine W_block ?_
  refine W_loopC (X := (Nat × Heap)) [(0, _), (1, _), (5, _)] (fun (x : (Nat × Heap)) => [(6, .int .i64 (x.1 : Int))]) (fun _ => _) (fun (x : (Nat × Heap)) => x.2 ++ H) (fun (x : (Nat × Heap)) => x.1 ≤ l.length ∧ x.1 ≤ 100 ∧ WheelH bw1 18446744073709551615 ([]) 0 x.2) (fun (x : (Nat × Heap)) => l.length - x.1) (0, HW1) ⟨Nat.zero_le _, Nat.zero_le _, hW1⟩ (sub_cons rfl (sub_cons rfl (sub_cons rfl (sub_nil _)))) (sub_cons rfl (sub_nil _)) rfl (.refl _) ?_
  rintro ⟨i, HWi⟩ ⟨hi, hi2, hWi⟩
  dsimp only at hi hi2 hWi ⊢
  simp only [List.cons_append, List.nil_append]
  refine W_seq ?_
  refine W_sr ?_
  refine W_move rfl rfl ?_
  refine W_move rfl rfl ?_
  refine W_len rfl ty23 rfl rfl ?_
  refine W_bin rfl rfl b_lss rfl ?_
  refine W_move rfl rfl ?_
  apply W_and
  iterate 4 exact rfl
  case h1 =>
    intro hg4
    refine W_gyes rfl rfl ?_
    refine W_move rfl rfl ?_
    refine W_gyes rfl rfl ?_
    refine W_bin rfl rfl b_lss rfl ?_
    exact W_met rfl (by repeat (first | exact .refl | refine .cons rfl ?_))
  refine W_nil ?_
  refine W_condPS (p := (i : Int) < (l.length : Int) ∧ (i : Int) < 100) rfl (by first | exact Iff.rfl | simp) (fun q0 => ?_) (fun q0 => ?_)
  · skip
    refine W_skip ?_
    refine W_seq ?_
    refine W_block ?_
    refine W_region ?_
    obtain ⟨x_a, hx_a⟩ : ∃ x, l[i]? = some x := ⟨_, List.getElem?_eq_getElem (by omega)⟩
    obtain ⟨q0, p0, rfl, hc⟩ := hrow.at (i := i) (v := .int .u64 x_a) (by rw [List.getElem?_map, hx_a]; rfl)
    have ha0 := hwf x_a (List.mem_of_getElem? hx_a)
    have hg_a : (l.getD i 0) = x_a := by rw [List.getD_eq_getElem?_getD, hx_a]; rfl
    obtain ⟨a, rfl⟩ : ∃ a : Nat, x_a = (a : Int) := ⟨x_a.toNat, by omega⟩
    have ha : a ≤ 18446744073709551615 := by omega
    refine W_move rfl rfl ?_
    refine W_move rfl rfl ?_
    refine W_move rfl rfl ?_
    refine W_move rfl rfl ?_
    refine W_indexAddr (j := i) rfl rfl ty23 ty22 rfl (by omega) rfl rfl ?_
    refine W_load (v := .int .u64 ((a : Nat) : Int)) rfl ty22 rfl (by rw [Nat.mul_one]; exact hc.up (by repeat (first | with_reducible exact HSub.refl _ | refine HSub.cons (by repeat (first | exact Take.here _ | apply Take.next | apply Take.app)) ?_ | refine HSub.app (by repeat (first | with_reducible exact TakeS.here _ | apply TakeS.next | apply TakeS.app)) ?_ | exact HSub.nil _ | exact HSub.refl _ | refine HSub.drop ?_ | refine HSub.dropS ?_))) rfl ?_
    refine W_call (.cons rfl (.cons rfl (.cons rfl .nil))) Tryd.call14 rfl ((Put_late (id := (i : Int)) (a := a) hWi (by omega) ha (by simp)).hsub (.refl _)) ?_
    rintro v H' ⟨rfl, rfl⟩
    refine W_nil ?_
    refine W_blk ?_
    refine W_region ?_
    refine W_move rfl rfl ?_
    refine W_bin rfl rfl (b_add (m := ((i + 1 : Nat) : Int)) ((i64w (by omega)).trans (by omega))) rfl ?_
    refine W_assign rfl rfl ?_
    refine W_nil ?_
    refine W_again (i + 1, HWi) ⟨by show i + 1 ≤ l.length; omega, by show i + 1 ≤ 100; omega, hWi⟩ (by show l.length - (i + 1) < l.length - i; omega) (sub_cons rfl (sub_cons rfl (sub_cons rfl (sub_cons rfl (sub_nil _))))) rfl (.refl _)
  · skip
    refine W_exit rfl ?_
    refine W_sr ?_
    refine W_move rfl rfl ?_
    refine W_call (.cons rfl .nil) Tryd.call15 rfl (Next_W hT hWi (by omega)) ?_
    rintro v H' ⟨rfl, rfl⟩
    skip
    refine W_move rfl rfl ?_
    refine W_extract rfl rfl rfl ?_
    refine W_extract rfl rfl rfl ?_
    refine W_assign rfl rfl ?_
    refine W_assign rfl rfl ?_
    refine W_nil ?_
    refine W_seq ?_
    refine W_sr ?_
    refine W_move rfl rfl ?_
    refine W_not rfl rfl ?_
    refine W_nil ?_
    refine W_condT rfl rfl ?_
    refine W_sr ?_
    refine W_callp .nil Tryd.call16 rfl hT known_pure ?_
    refine W_move rfl rfl ?_
    refine W_gyes rfl rfl ?_
    refine W_move rfl rfl ?_
    refine W_gyes rfl rfl ?_
    refine W_callq (.cons rfl .nil) Tryd.call17 rfl (Len_W hWi) ?_
    refine W_gyes rfl rfl ?_
    refine W_bin rfl rfl b_eql rfl ?_
    first | refine W_pickt rfl rfl rfl ?_ | refine W_pickf rfl rfl rfl ?_
    refine W_move rfl rfl ?_
    refine W_gyes rfl rfl ?_
    refine W_move rfl rfl ?_
    refine W_gyes rfl rfl ?_
    refine W_len rfl ty23 rfl rfl ?_
    refine W_gyes rfl rfl ?_
    refine W_bin rfl rfl b_eql rfl ?_
    by_cases hl0 : (l.length : Int) = 0
    · skip
      rw [decide_eq_true hl0]
      refine W_gyes rfl rfl ?_
      refine W_move rfl rfl ?_
      refine W_gno rfl rfl rfl ?_
      refine W_gno rfl rfl rfl ?_
      refine W_gyes rfl rfl ?_
      first | refine W_pickt rfl rfl rfl ?_ | refine W_pickf rfl rfl rfl ?_
      first | refine W_pickt rfl rfl rfl ?_ | refine W_pickf rfl rfl rfl ?_
      refine W_assign rfl rfl ?_
      refine W_nil ?_
      refine W_ret1m (H2 := H) Tryd.results3 rfl (.nil _) (by repeat (first | with_reducible exact HSub.refl _ | refine HSub.cons (by repeat (first | exact Take.here _ | apply Take.next | apply Take.app)) ?_ | refine HSub.app (by repeat (first | with_reducible exact TakeS.here _ | apply TakeS.next | apply TakeS.app)) ?_ | exact HSub.nil _ | exact HSub.refl _ | refine HSub.drop ?_ | refine HSub.dropS ?_)) ?_
      exact ⟨rfl, rfl⟩
    · skip
      rw [decide_eq_false hl0]
      refine W_gyes rfl rfl ?_
      refine W_move rfl rfl ?_
      refine W_gyes rfl rfl ?_
      refine W_move rfl rfl ?_
      refine W_gyes rfl rfl ?_
      refine W_bin rfl rfl b_eql rfl ?_
      refine W_gyes rfl rfl ?_
      first | refine W_pickt rfl rfl rfl ?_ | refine W_pickf rfl rfl rfl ?_
      first | refine W_pickt rfl rfl rfl ?_ | refine W_pickf rfl rfl rfl ?_
      refine W_assign rfl rfl ?_
      refine W_nil ?_
      refine W_ret1m (H2 := H) Tryd.results3 rfl (.nil _) (by repeat (first | with_reducible exact HSub.refl _ | refine HSub.cons (by repeat (first | exact Take.here _ | apply Take.next | apply Take.app)) ?_ | refine HSub.app (by repeat (first | with_reducible exact TakeS.here _ | apply TakeS.next | apply TakeS.app)) ?_ | exact HSub.nil _ | exact HSub.refl _ | refine HSub.drop ?_ | refine HSub.dropS ?_)) ?_
      exact ⟨rfl, rfl⟩
theorem wheelNext_pure {now : Nat} {l : List Int} {ad : Option Addr} {cap : Nat} (hwf : ∀ b ∈ l, 0 ≤ b ∧ b ≤ 18446744073709551615) (hcap : l.length ≤ 9223372036854775807) (hnow : now ≤ 18446744073709551615) : Pure Tryd.prog (fun w => Tab w ∧ InRow w ad (l.map (Value.int .u64))) 3 [.int .u64 ((now : Nat) : Int), .slice ad l.length cap] (.bool true) := by
  rcases Nat.lt_or_eq_of_le hnow with h | rfl
  · exact wheelNext_L hwf hcap h
  · exact wheelNext_M (now := 0) hwf hcap
end Go.Proofs.YtknbohnoiigioaaDoor
namespace Go.Proofs.YtknbohnoiigioaaDoor
open Go Go.Sl
attribute [local irreducible] W
theorem puts_same {a : Nat} : ∀ i, i ≤ 256 → ∀ t ∈ putsT 0 (List.replicate 256 (a : Int)) i, t.s = (placeT 0 a).1
  | 0, _ => fun t ht => by cases ht
  | i + 1, h => fun t ht => by
    rcases List.mem_append.1 (show t ∈ putsT 0 (List.replicate 256 (a : Int)) i ++ [_] from ht) with ht | ht
    · exact puts_same i (by omega) t ht
    · rw [List.mem_singleton.1 ht]
      show (placeT 0 ((List.replicate 256 (a : Int)).getD i 0).toNat).1 = _
      rw [List.getD_eq_getElem?_getD, List.getElem?_replicate, if_pos (by omega)]
      rfl
set_option maxHeartbeats 4000000 in
theorem wheelLimits_pure {id : Int} {a : Nat} (ha : a ≤ 18446744073709551615) : Pure Tryd.prog (Tab) 4 [.int .i64 id, .int .u64 ((a : Nat) : Int)] (.bool true) := by
  intro w0 H hT
  refine L_enter Tryd.func4 rfl Tryd.ntmps4 rfl rfl ?_
  refine W_sr ?_
  refine W_assign rfl rfl ?_
  refine W_nil ?_
  refine W_sr ?_
  refine W_call (.cons rfl .nil) Tryd.call13 rfl ((New_W (now := 0) (H := H)).hsub (by repeat (first | with_reducible exact HSub.refl _ | refine HSub.cons (by repeat (first | exact Take.here _ | apply Take.next | apply Take.app)) ?_ | refine HSub.app (by repeat (first | with_reducible exact TakeS.here _ | apply TakeS.next | apply TakeS.app)) ?_ | exact HSub.nil _ | exact HSub.refl _ | refine HSub.drop ?_ | refine HSub.dropS ?_))) ?_
  rintro v H' ⟨bw1, HW1, rfl, hW1, rfl⟩
  refine W_assign rfl rfl ?_
  refine W_nil ?_
  refine W_seq ?_
  refine W_sr ?_
  refine W_assign rfl rfl ?_
  refine W_nil ?_
  refine W_block ?_
  refine W_loopC (X := (Nat × Heap)) [(0, _), (1, _), (5, _)] (fun (x : (Nat × Heap)) => [(6, .int .i64 (x.1 : Int))]) (fun _ => _) (fun (x : (Nat × Heap)) => x.2 ++ H) (fun (x : (Nat × Heap)) => x.1 ≤ 256 ∧ WheelH bw1 0 (putsT 0 (List.replicate 256 (a : Int)) x.1) x.1 x.2) (fun (x : (Nat × Heap)) => 256 - x.1) (0, HW1) ⟨Nat.zero_le _, hW1⟩ (sub_cons rfl (sub_cons rfl (sub_cons rfl (sub_nil _)))) (sub_cons rfl (sub_nil _)) rfl (.refl _) ?_
  rintro ⟨i, HWi⟩ ⟨hi, hWi⟩
  dsimp only at hi hWi ⊢
  simp only [List.cons_append, List.nil_append]
  refine W_seq ?_
  refine W_sr ?_
  refine W_move rfl rfl ?_
  refine W_bin rfl rfl b_lss rfl ?_
  refine W_nil ?_
  refine W_condPS (p := (i : Int) < 256) rfl (by simp) (fun q0 => ?_) (fun q0 => ?_)
  · skip
    refine W_skip ?_
    refine W_seq ?_
    refine W_block ?_
    refine W_sr ?_
    refine W_move rfl rfl ?_
    refine W_move rfl rfl ?_
    refine W_move rfl rfl ?_
    refine W_call (.cons rfl (.cons rfl (.cons rfl .nil))) Tryd.call14 rfl ((Put_L (id := (i : Int)) (a := a) hWi (by decide) ha (by omega) (puts_new 0 (List.replicate 256 (a : Int)) i) (by omega)).hsub (.refl _)) ?_
    rintro v H' ⟨HW', hW', rfl, rfl⟩
    refine W_move rfl rfl ?_
    refine W_extract rfl rfl rfl ?_
    refine W_extract rfl rfl rfl ?_
    refine W_alloc (l := zSpot.v) ty27 rfl rfl (fun b7 => ?_)
    refine W_storeA (l' := (placeT 0 a).1.v) rfl rfl ty27 rfl rfl (b := b7) (by repeat (first | exact List.mem_cons_self | apply List.mem_cons_of_mem | apply List.mem_append_right)) (by exact Nat.le_refl 4) rfl (by repeat (first | exact Upd.head _ | apply Upd.tail | apply Upd.app)) ?_
    refine W_assign rfl rfl ?_
    refine W_nil ?_
    refine W_sr ?_
    refine W_move rfl rfl ?_
    refine W_bin rfl rfl b_neq rfl ?_
    refine W_nil ?_
    refine W_condF rfl rfl ?_
    refine W_skip ?_
    refine W_blk ?_
    refine W_region ?_
    refine W_move rfl rfl ?_
    refine W_bin rfl rfl (b_add (m := ((i + 1 : Nat) : Int)) ((i64w (by omega)).trans (by omega))) rfl ?_
    refine W_assign rfl rfl ?_
    refine W_nil ?_
    refine W_again (i + 1, HW') ⟨by show i + 1 ≤ 256; omega, by show WheelH bw1 0 (putsT 0 (List.replicate 256 (a : Int)) (i + 1)) (i + 1) HW'; rw [show (putsT 0 (List.replicate 256 (a : Int)) (i + 1)) = (putsT 0 (List.replicate 256 (a : Int)) i) ++ [tmOf 0 a i (i : Int)] from by show _ ++ [tmOf 0 ((List.replicate 256 (a : Int)).getD i 0).toNat i (i : Int)] = _; rw [show (List.replicate 256 (a : Int)).getD i 0 = (a : Int) from by rw [List.getD_eq_getElem?_getD, List.getElem?_replicate, if_pos (by omega)]; rfl]; rfl]; exact hW'⟩ (by show 256 - (i + 1) < 256 - i; omega) (sub_cons rfl (sub_cons rfl (sub_cons rfl (sub_cons rfl (sub_nil _))))) rfl (by repeat (first | with_reducible exact HSub.refl _ | refine HSub.drop ?_))
  · skip
    refine W_exit rfl ?_
    refine W_sr ?_
    refine W_move rfl rfl ?_
    refine W_move rfl rfl ?_
    refine W_move rfl rfl ?_
    obtain rfl : i = 256 := by omega
    obtain ⟨L, hL⟩ : ∃ L, L = (putsT 0 (List.replicate 256 (a : Int)) 256) := ⟨_, rfl⟩
    rw [← hL] at hWi
    have hsame : ∀ t ∈ L, t.s = (placeT 0 a).1 := by rw [hL]; exact puts_same 256 (Nat.le_refl _)
    have hLl : L.length = 256 := by rw [hL]; exact puts_len _ _ _
    have hLi : L.map (·.id) = (List.range 256).map (fun j : Nat => (j : Int)) := by rw [hL]; exact puts_ids _ _ _
    clear hL
    by_cases hr : 0 ≤ id ∧ id < 256
    · skip
      refine W_call (.cons rfl (.cons rfl (.cons rfl .nil))) Tryd.call14 rfl (Put_again (z := (a : Int)) hWi ⟨hr.1, hr.2⟩ (by rw [hLi, List.mem_map]; exact ⟨id.toNat, List.mem_range.2 (by omega), by omega⟩)) ?_
      rintro v H' ⟨rfl, rfl⟩
      refine W_move rfl rfl ?_
      refine W_extract rfl rfl rfl ?_
      refine W_extract rfl rfl rfl ?_
      refine W_alloc (l := zSpot.v) ty27 rfl rfl (fun b9 => ?_)
      refine W_storeA (l' := zSpot.v) rfl rfl ty27 rfl rfl (b := b9) (by repeat (first | exact List.mem_cons_self | apply List.mem_cons_of_mem | apply List.mem_append_right)) (by exact Nat.le_refl 4) rfl (by repeat (first | exact Upd.head _ | apply Upd.tail | apply Upd.app)) ?_
      refine W_assign rfl rfl ?_
      refine W_nil ?_
      refine W_sr ?_
      refine W_assign rfl rfl ?_
      refine W_nil ?_
      refine W_seq ?_
      refine W_sr ?_
      refine W_move rfl rfl ?_
      refine W_bin rfl rfl b_geq rfl ?_
      refine W_move rfl rfl ?_
      apply W_and
      iterate 4 exact rfl
      case h1 =>
        intro hg2
        refine W_gyes rfl rfl ?_
        refine W_move rfl rfl ?_
        refine W_gyes rfl rfl ?_
        refine W_bin rfl rfl b_lss rfl ?_
        exact W_met rfl (by repeat (first | exact .refl | refine .cons rfl ?_))
      refine W_nil ?_
      refine W_condT rfl (by simp; omega) ?_
      refine W_region ?_
      refine W_assign rfl rfl ?_
      refine W_nil ?_
      refine W_sr ?_
      refine W_move rfl rfl ?_
      refine W_call (.cons rfl (.cons rfl .nil)) Tryd.call18 rfl ((To_L (a := 18446744073709551615) hWi (by decide) (Nat.le_refl _) hT (H := H)).hsub (by repeat (first | with_reducible exact HSub.refl _ | refine HSub.cons (by repeat (first | exact Take.here _ | apply Take.next | apply Take.app)) ?_ | refine HSub.app (by repeat (first | with_reducible exact TakeS.here _ | apply TakeS.next | apply TakeS.app)) ?_ | exact HSub.nil _ | exact HSub.refl _ | refine HSub.drop ?_ | refine HSub.dropS ?_))) ?_
      rintro v H' ⟨O, Li, HWm, XO, hWm, hG, hO, rfl⟩
      have hids := hWi.ids
      have hall : ∀ t ∈ L, t.s.due ≤ 18446744073709551615 := fun t ht => dueW hWi ht
      obtain rfl : O = L := hG.is (by rw [List.filter_eq_self.2 (fun t ht => decide_eq_true (hall t ht))]) (hids.2.2.1.imp_of_mem fun ha hb h => .inr ⟨by rw [hsame _ ha, hsame _ hb], h⟩)
      obtain rfl : Li = [] := by rw [hG.left]; exact List.filter_eq_nil_iff.2 (fun t ht => by have := hall t ht; simp; omega)
      obtain ⟨ad2, cap2, rfl, _, _⟩ := hO.shape
      have hrow : Holds w0 (XO ++ (HWm ++ H)) ad2 ((O.map (·.id)).map (Value.int .i64)) := OwnS.holds hO (fun p hp => List.mem_append_left _ hp)
      rw [hLi] at hrow
      rw [hLl]
      refine W_assign rfl rfl ?_
      refine W_nil ?_
      refine W_seq ?_
      refine W_sr ?_
      refine W_move rfl rfl ?_
      refine W_len rfl ty35 rfl rfl ?_
      refine W_bin rfl rfl b_neq rfl ?_
      refine W_nil ?_
      refine W_condF rfl rfl ?_
      refine W_skip ?_
      refine W_seq ?_
      refine W_sr ?_
      refine W_assign rfl rfl ?_
      refine W_nil ?_
      refine W_block ?_
      refine W_loopC (X := Nat) [(5, _), (10, _), (11, _), (12, _)] (fun (i : Nat) => [(13, .int .i64 (i : Int))]) (fun _ => _) (fun (i : Nat) => XO ++ (HWm ++ H)) (fun (i : Nat) => i ≤ 256) (fun (i : Nat) => 256 - i) 0 (Nat.zero_le _) (sub_cons rfl (sub_cons rfl (sub_cons rfl (sub_cons rfl (sub_nil _))))) (sub_cons rfl (sub_nil _)) rfl (by repeat (first | with_reducible exact HSub.refl _ | refine HSub.cons (by repeat (first | exact Take.here _ | apply Take.next | apply Take.app)) ?_ | refine HSub.app (by repeat (first | with_reducible exact TakeS.here _ | apply TakeS.next | apply TakeS.app)) ?_ | exact HSub.nil _ | exact HSub.refl _ | refine HSub.drop ?_ | refine HSub.dropS ?_)) ?_
      intro i hi
      simp only [List.cons_append, List.nil_append]
      refine W_seq ?_
      refine W_sr ?_
      refine W_move rfl rfl ?_
      refine W_bin rfl rfl b_lss rfl ?_
      refine W_nil ?_
      refine W_condPS (p := (i : Int) < 256) rfl (by simp) (fun q1 => ?_) (fun q1 => ?_)
      · skip
        refine W_skip ?_
        refine W_seq ?_
        refine W_block ?_
        refine W_sr ?_
        obtain ⟨q0, p0, rfl, hc⟩ := hrow.at (i := i) (v := .int .i64 (i : Int)) (by rw [List.getElem?_map, List.getElem?_map, List.getElem?_range (by omega)]; rfl)
        refine W_move rfl rfl ?_
        refine W_move rfl rfl ?_
        refine W_indexAddr (j := i) rfl rfl ty35 ty3 rfl (by omega) rfl rfl ?_
        refine W_load (v := .int .i64 (i : Int)) rfl ty3 rfl (by rw [Nat.mul_one]; exact hc) rfl ?_
        refine W_move rfl rfl ?_
        refine W_bin rfl rfl b_neq rfl ?_
        refine W_nil ?_
        refine W_condF rfl (decide_eq_false (fun h => h rfl)) ?_
        refine W_skip ?_
        refine W_blk ?_
        refine W_region ?_
        refine W_move rfl rfl ?_
        refine W_bin rfl rfl (b_add (m := ((i + 1 : Nat) : Int)) ((i64w (by omega)).trans (by omega))) rfl ?_
        refine W_assign rfl rfl ?_
        refine W_nil ?_
        refine W_again (i + 1) (by omega) (by omega) (sub_cons rfl (sub_cons rfl (sub_cons rfl (sub_cons rfl (sub_cons rfl (sub_nil _)))))) rfl (by repeat (first | with_reducible exact HSub.refl _ | refine HSub.cons (by repeat (first | exact Take.here _ | apply Take.next | apply Take.app)) ?_ | refine HSub.app (by repeat (first | with_reducible exact TakeS.here _ | apply TakeS.next | apply TakeS.app)) ?_ | exact HSub.nil _ | exact HSub.refl _ | refine HSub.drop ?_ | refine HSub.dropS ?_))
      · skip
        refine W_exit rfl ?_
        refine W_sr ?_
        refine W_callp .nil Tryd.call16 rfl hT known_pure ?_
        refine W_move rfl rfl ?_
        refine W_gyes rfl rfl ?_
        refine W_move rfl rfl ?_
        refine W_gyes rfl rfl ?_
        refine W_move rfl rfl ?_
        refine W_gyes rfl rfl ?_
        refine W_bin rfl rfl b_eql rfl ?_
        first | refine W_pickt rfl rfl rfl ?_ | refine W_pickf rfl rfl rfl ?_
        refine W_move rfl rfl ?_
        refine W_gyes rfl rfl ?_
        refine W_move rfl rfl ?_
        refine W_gyes rfl rfl ?_
        refine W_call (.cons rfl .nil) Tryd.call17 rfl (LCalls.hsub (Len_W (H := H) hWm) (by repeat (first | with_reducible exact HSub.refl _ | refine HSub.cons (by repeat (first | exact Take.here _ | apply Take.next | apply Take.app)) ?_ | refine HSub.app (by repeat (first | with_reducible exact TakeS.here _ | apply TakeS.next | apply TakeS.app)) ?_ | exact HSub.nil _ | exact HSub.refl _ | refine HSub.drop ?_ | refine HSub.dropS ?_))) ?_
        rintro v H' ⟨rfl, rfl⟩
        refine W_gyes rfl rfl ?_
        refine W_bin rfl rfl b_eql rfl ?_
        first | refine W_pickt rfl rfl rfl ?_ | refine W_pickf rfl rfl rfl ?_
        refine W_assign rfl rfl ?_
        refine W_nil ?_
        refine W_ret1m (H2 := H) Tryd.results4 rfl (.nil _) (by repeat (first | with_reducible exact HSub.refl _ | refine HSub.cons (by repeat (first | exact Take.here _ | apply Take.next | apply Take.app)) ?_ | refine HSub.app (by repeat (first | with_reducible exact TakeS.here _ | apply TakeS.next | apply TakeS.app)) ?_ | exact HSub.nil _ | exact HSub.refl _ | refine HSub.drop ?_ | refine HSub.dropS ?_)) ?_
        exact ⟨rfl, rfl⟩
    · skip
      refine W_callp (.cons rfl (.cons rfl (.cons rfl .nil))) Tryd.call14 rfl (T := fun _ => True) trivial (Put_range (bw := bw1) (id := id) (z := (a : Int)) (by omega)) ?_
      refine W_move rfl rfl ?_
      refine W_extract rfl rfl rfl ?_
      refine W_extract rfl rfl rfl ?_
      refine W_alloc (l := zSpot.v) ty27 rfl rfl (fun b9 => ?_)
      refine W_storeA (l' := zSpot.v) rfl rfl ty27 rfl rfl (b := b9) (by repeat (first | exact List.mem_cons_self | apply List.mem_cons_of_mem | apply List.mem_append_right)) (by exact Nat.le_refl 4) rfl (by repeat (first | exact Upd.head _ | apply Upd.tail | apply Upd.app)) ?_
      refine W_assign rfl rfl ?_
      refine W_nil ?_
      refine W_sr ?_
      refine W_assign rfl rfl ?_
      refine W_nil ?_
      refine W_seq ?_
      refine W_sr ?_
      refine W_move rfl rfl ?_
      refine W_bin rfl rfl b_geq rfl ?_
      refine W_move rfl rfl ?_
      apply W_and
      iterate 4 exact rfl
      case h1 =>
        intro hg2
        refine W_gyes rfl rfl ?_
        refine W_move rfl rfl ?_
        refine W_gyes rfl rfl ?_
        refine W_bin rfl rfl b_lss rfl ?_
        exact W_met rfl (by repeat (first | exact .refl | refine .cons rfl ?_))
      refine W_nil ?_
      refine W_condF rfl (by simp; omega) ?_
      refine W_skip ?_
      refine W_sr ?_
      refine W_move rfl rfl ?_
      refine W_call (.cons rfl (.cons rfl .nil)) Tryd.call18 rfl ((To_L (a := 18446744073709551615) hWi (by decide) (Nat.le_refl _) hT (H := H)).hsub (by repeat (first | with_reducible exact HSub.refl _ | refine HSub.cons (by repeat (first | exact Take.here _ | apply Take.next | apply Take.app)) ?_ | refine HSub.app (by repeat (first | with_reducible exact TakeS.here _ | apply TakeS.next | apply TakeS.app)) ?_ | exact HSub.nil _ | exact HSub.refl _ | refine HSub.drop ?_ | refine HSub.dropS ?_))) ?_
      rintro v H' ⟨O, Li, HWm, XO, hWm, hG, hO, rfl⟩
      have hids := hWi.ids
      have hall : ∀ t ∈ L, t.s.due ≤ 18446744073709551615 := fun t ht => dueW hWi ht
      obtain rfl : O = L := hG.is (by rw [List.filter_eq_self.2 (fun t ht => decide_eq_true (hall t ht))]) (hids.2.2.1.imp_of_mem fun ha hb h => .inr ⟨by rw [hsame _ ha, hsame _ hb], h⟩)
      obtain rfl : Li = [] := by rw [hG.left]; exact List.filter_eq_nil_iff.2 (fun t ht => by have := hall t ht; simp; omega)
      obtain ⟨ad2, cap2, rfl, _, _⟩ := hO.shape
      have hrow : Holds w0 (XO ++ (HWm ++ H)) ad2 ((O.map (·.id)).map (Value.int .i64)) := OwnS.holds hO (fun p hp => List.mem_append_left _ hp)
      rw [hLi] at hrow
      rw [hLl]
      refine W_assign rfl rfl ?_
      refine W_nil ?_
      refine W_seq ?_
      refine W_sr ?_
      refine W_move rfl rfl ?_
      refine W_len rfl ty35 rfl rfl ?_
      refine W_bin rfl rfl b_neq rfl ?_
      refine W_nil ?_
      refine W_condF rfl rfl ?_
      refine W_skip ?_
      refine W_seq ?_
      refine W_sr ?_
      refine W_assign rfl rfl ?_
      refine W_nil ?_
      refine W_block ?_
      refine W_loopC (X := Nat) [(5, _), (10, _), (11, _), (12, _)] (fun (i : Nat) => [(13, .int .i64 (i : Int))]) (fun _ => _) (fun (i : Nat) => XO ++ (HWm ++ H)) (fun (i : Nat) => i ≤ 256) (fun (i : Nat) => 256 - i) 0 (Nat.zero_le _) (sub_cons rfl (sub_cons rfl (sub_cons rfl (sub_cons rfl (sub_nil _))))) (sub_cons rfl (sub_nil _)) rfl (by repeat (first | with_reducible exact HSub.refl _ | refine HSub.cons (by repeat (first | exact Take.here _ | apply Take.next | apply Take.app)) ?_ | refine HSub.app (by repeat (first | with_reducible exact TakeS.here _ | apply TakeS.next | apply TakeS.app)) ?_ | exact HSub.nil _ | exact HSub.refl _ | refine HSub.drop ?_ | refine HSub.dropS ?_)) ?_
      intro i hi
      simp only [List.cons_append, List.nil_append]
      refine W_seq ?_
      refine W_sr ?_
      refine W_move rfl rfl ?_
      refine W_bin rfl rfl b_lss rfl ?_
      refine W_nil ?_
      refine W_condPS (p := (i : Int) < 256) rfl (by simp) (fun q1 => ?_) (fun q1 => ?_)
      · skip
        refine W_skip ?_
        refine W_seq ?_
        refine W_block ?_
        refine W_sr ?_
        obtain ⟨q0, p0, rfl, hc⟩ := hrow.at (i := i) (v := .int .i64 (i : Int)) (by rw [List.getElem?_map, List.getElem?_map, List.getElem?_range (by omega)]; rfl)
        refine W_move rfl rfl ?_
        refine W_move rfl rfl ?_
        refine W_indexAddr (j := i) rfl rfl ty35 ty3 rfl (by omega) rfl rfl ?_
        refine W_load (v := .int .i64 (i : Int)) rfl ty3 rfl (by rw [Nat.mul_one]; exact hc) rfl ?_
        refine W_move rfl rfl ?_
        refine W_bin rfl rfl b_neq rfl ?_
        refine W_nil ?_
        refine W_condF rfl (decide_eq_false (fun h => h rfl)) ?_
        refine W_skip ?_
        refine W_blk ?_
        refine W_region ?_
        refine W_move rfl rfl ?_
        refine W_bin rfl rfl (b_add (m := ((i + 1 : Nat) : Int)) ((i64w (by omega)).trans (by omega))) rfl ?_
        refine W_assign rfl rfl ?_
        refine W_nil ?_
        refine W_again (i + 1) (by omega) (by omega) (sub_cons rfl (sub_cons rfl (sub_cons rfl (sub_cons rfl (sub_cons rfl (sub_nil _)))))) rfl (by repeat (first | with_reducible exact HSub.refl _ | refine HSub.cons (by repeat (first | exact Take.here _ | apply Take.next | apply Take.app)) ?_ | refine HSub.app (by repeat (first | with_reducible exact TakeS.here _ | apply TakeS.next | apply TakeS.app)) ?_ | exact HSub.nil _ | exact HSub.refl _ | refine HSub.drop ?_ | refine HSub.dropS ?_))
      · skip
        refine W_exit rfl ?_
        refine W_sr ?_
        refine W_callp .nil Tryd.call16 rfl hT known_pure ?_
        refine W_move rfl rfl ?_
        refine W_gyes rfl rfl ?_
        refine W_move rfl rfl ?_
        refine W_gyes rfl rfl ?_
        refine W_move rfl rfl ?_
        refine W_gyes rfl rfl ?_
        refine W_bin rfl rfl b_eql rfl ?_
        first | refine W_pickt rfl rfl rfl ?_ | refine W_pickf rfl rfl rfl ?_
        refine W_move rfl rfl ?_
        refine W_gyes rfl rfl ?_
        refine W_move rfl rfl ?_
        refine W_gyes rfl rfl ?_
        refine W_call (.cons rfl .nil) Tryd.call17 rfl (LCalls.hsub (Len_W (H := H) hWm) (by repeat (first | with_reducible exact HSub.refl _ | refine HSub.cons (by repeat (first | exact Take.here _ | apply Take.next | apply Take.app)) ?_ | refine HSub.app (by repeat (first | with_reducible exact TakeS.here _ | apply TakeS.next | apply TakeS.app)) ?_ | exact HSub.nil _ | exact HSub.refl _ | refine HSub.drop ?_ | refine HSub.dropS ?_))) ?_
        rintro v H' ⟨rfl, rfl⟩
        refine W_gyes rfl rfl ?_
        refine W_bin rfl rfl b_eql rfl ?_
        first | refine W_pickt rfl rfl rfl ?_ | refine W_pickf rfl rfl rfl ?_
        refine W_assign rfl rfl ?_
        refine W_nil ?_
        refine W_ret1m (H2 := H) Tryd.results4 rfl (.nil _) (by repeat (first | with_reducible exact HSub.refl _ | refine HSub.cons (by repeat (first | exact Take.here _ | apply Take.next | apply Take.app)) ?_ | refine HSub.app (by repeat (first | with_reducible exact TakeS.here _ | apply TakeS.next | apply TakeS.app)) ?_ | exact HSub.nil _ | exact HSub.refl _ | refine HSub.drop ?_ | refine HSub.dropS ?_)) ?_
        exact ⟨rfl, rfl⟩
end Go.Proofs.YtknbohnoiigioaaDoor
namespace Go.Proofs.YtknbohnoiigioaaDoor
open Go Go.Sl
attribute [local irreducible] W
theorem To_any {w0 : World} {H HW : Heap} {bw now turn a : Nat} {L : List Tm} (hT : Tab w0) (hW : WheelH bw now L turn HW) (hd : ∀ t ∈ L, now < t.s.due) (ha : a ≤ 18446744073709551615) :
    LCalls Tryd.prog w0 18 #[.pointer (some ⟨bw, 0, none⟩), .int .u64 ((a : Nat) : Int)] (HW ++ H) (fun v H' => ∃ O Li HW' XO, WheelH bw (max now a) Li turn HW' ∧ Gone now (max now a) L Li O ∧ OwnS 3 1 v O.length ((O.map (·.id)).map (Value.int .i64)) XO ∧ H' = XO ++ (HW' ++ H)) := by
  by_cases h : a ≤ now
  · obtain ⟨row, HT, rfl, _, hr0, _⟩ := hW.now
    have := To_stay (w0 := w0) (H := ((bw, .cells 102 523 row) :: HT) ++ H) (now := now) (row := row) (tot := 523) (by repeat (first | exact List.mem_cons_self | apply List.mem_cons_of_mem | apply List.mem_append_right)) hr0 h
    refine LCalls.mono this ?_
    rintro v H' ⟨rfl, rfl⟩
    rw [Nat.max_eq_left h]
    exact ⟨[], L, _, [], hW, Gone.start hd, .nil, rfl⟩
  · have e : max now a = a := Nat.max_eq_right (by omega)
    rw [e]
    exact To_L hW (by omega) ha hT
theorem Gone.trans {now m n : Nat} {L Lm Li O1 O2 : List Tm} (h1 : Gone now m L Lm O1) (h2 : Gone m n Lm Li O2) : Gone now n L Li (O1 ++ O2) := by
  have hle := h2.le
  refine ⟨Nat.le_trans h1.le h2.le, ?_, ?_, ?_⟩
  · rw [h2.left, h1.left, List.filter_filter]
    refine List.filter_congr fun t _ => ?_
    rw [← Bool.decide_and]
    exact decide_eq_decide.2 ⟨fun h => h.1, fun h => ⟨h, by omega⟩⟩
  · have e := h2.perm
    rw [h1.left, List.filter_filter] at e
    refine (h1.perm.append e).trans (filter_or L fun t _ => ?_)
    simp only [decide_eq_true_eq, Bool.and_eq_true]
    omega
  · rw [List.pairwise_append]
    refine ⟨h1.asc, h2.asc, fun a ha b hb => .inl ?_⟩
    have e1 := of_decide_eq_true (List.mem_filter.1 (h1.perm.mem_iff.1 ha)).2
    have hb2 := (List.mem_filter.1 (h2.perm.mem_iff.1 hb)).1
    rw [h1.left] at hb2
    have e2 := of_decide_eq_true (List.mem_filter.1 hb2).2
    omega
theorem Gone.ahead {now nw : Nat} {L Li O : List Tm} (h : Gone now nw L Li O) : ∀ t ∈ Li, nw < t.s.due := fun t ht => by
  rw [h.left] at ht
  exact of_decide_eq_true (List.mem_filter.1 ht).2
theorem Gone.same {now nw : Nat} {L La Lb Oa Ob : List Tm} (ha : Gone now nw L La Oa) (hb : Gone now nw L Lb Ob) : La = Lb ∧ Oa = Ob :=
  ⟨ha.left.trans hb.left.symm, ahead_unique (ha.perm.trans hb.perm.symm) ha.asc hb.asc⟩
structure WsS where
  i : Nat
  nw : Nat
  Lb : List Tm
  Ob : List Tm
  v : Value
  XO : Heap
  HB : Heap
set_option maxHeartbeats 4000000 in
theorem wheelSteps_L {now fin : Nat} {l s : List Int} {ad as_ : Option Addr} {cap caps : Nat} (hwf : ∀ b ∈ l, 0 ≤ b ∧ b ≤ 18446744073709551615) (hwfs : ∀ b ∈ s, 0 ≤ b ∧ b ≤ 18446744073709551615) (hcap : l.length ≤ 9223372036854775807) (hcaps : s.length ≤ 9223372036854775807) (hfin : fin ≤ 18446744073709551615) (hnow : now < 18446744073709551615) : Pure Tryd.prog (fun w => Tab w ∧ InRow w ad (l.map (Value.int .u64)) ∧ InRow w as_ (s.map (Value.int .u64))) 10 [.int .u64 ((now : Nat) : Int), .int .u64 ((fin : Nat) : Int), .slice ad l.length cap, .slice as_ s.length caps] (.bool true) := by
  intro w0 H hT
  have hrow : Holds w0 H ad (l.map (Value.int .u64)) := Holds.old hT.2.1
  have hrows : Holds w0 H as_ (s.map (Value.int .u64)) := Holds.old hT.2.2
  replace hT := hT.1
  refine L_enter Tryd.func10 rfl Tryd.ntmps10 rfl rfl ?_
  refine W_sr ?_
  refine W_assign rfl rfl ?_
  refine W_nil ?_
  refine W_sr ?_
  refine W_move rfl rfl ?_
  refine W_call (.cons rfl .nil) Tryd.call13 rfl ((New_W (now := now) (H := H)).hsub (by repeat (first | with_reducible exact HSub.refl _ | refine HSub.cons (by repeat (first | exact Take.here _ | apply Take.next | apply Take.app)) ?_ | refine HSub.app (by repeat (first | with_reducible exact TakeS.here _ | apply TakeS.next | apply TakeS.app)) ?_ | exact HSub.nil _ | exact HSub.refl _ | refine HSub.drop ?_ | refine HSub.dropS ?_))) ?_
  rintro v H' ⟨bw1, HW1, rfl, hW1, rfl⟩
  refine W_move rfl rfl ?_
  refine W_call (.cons rfl .nil) Tryd.call13 rfl ((New_W (now := now) (H := HW1 ++ H)).hsub (by repeat (first | with_reducible exact HSub.refl _ | refine HSub.cons (by repeat (first | exact Take.here _ | apply Take.next | apply Take.app)) ?_ | refine HSub.app (by repeat (first | with_reducible exact TakeS.here _ | apply TakeS.next | apply TakeS.app)) ?_ | exact HSub.nil _ | exact HSub.refl _ | refine HSub.drop ?_ | refine HSub.dropS ?_))) ?_
  rintro v H' ⟨bw2, HW2, rfl, hW2, rfl⟩
  refine W_assign rfl rfl ?_
  refine W_assign rfl rfl ?_
  refine W_nil ?_
  refine W_seq ?_
  refine W_sr ?_
  refine W_assign rfl rfl ?_
  refine W_nil ?_
  refine W_block ?_
  refine W_loopC (X := (Nat × Heap × Heap)) [(1, _), (2, _), (3, _), (9, _), (10, _)] (fun (x : (Nat × Heap × Heap)) => [(11, .int .i64 (x.1 : Int))]) (fun _ => _) (fun (x : (Nat × Heap × Heap)) => x.2.1 ++ (x.2.2 ++ H)) (fun (x : (Nat × Heap × Heap)) => x.1 ≤ l.length ∧ x.1 ≤ 100 ∧ WheelH bw1 now (putsT now l x.1) x.1 x.2.1 ∧ WheelH bw2 now (putsT now l x.1) x.1 x.2.2) (fun (x : (Nat × Heap × Heap)) => l.length - x.1) (0, HW1, HW2) ⟨Nat.zero_le _, Nat.zero_le _, hW1, hW2⟩ (sub_cons rfl (sub_cons rfl (sub_cons rfl (sub_cons rfl (sub_cons rfl (sub_nil _)))))) (sub_cons rfl (sub_nil _)) rfl (by repeat (first | with_reducible exact HSub.refl _ | refine HSub.cons (by repeat (first | exact Take.here _ | apply Take.next | apply Take.app)) ?_ | refine HSub.app (by repeat (first | with_reducible exact TakeS.here _ | apply TakeS.next | apply TakeS.app)) ?_ | exact HSub.nil _ | exact HSub.refl _ | refine HSub.drop ?_ | refine HSub.dropS ?_)) ?_
  rintro ⟨i, HWA, HWB⟩ ⟨hi, hi2, hWA, hWB⟩
  dsimp only at hi hi2 hWA hWB ⊢
  simp only [List.cons_append, List.nil_append]
  refine W_seq ?_
  refine W_sr ?_
  refine W_move rfl rfl ?_
  refine W_move rfl rfl ?_
  refine W_len rfl ty23 rfl rfl ?_
  refine W_bin rfl rfl b_lss rfl ?_
  refine W_move rfl rfl ?_
  apply W_and
  iterate 4 exact rfl
  case h1 =>
    intro hg4
    refine W_gyes rfl rfl ?_
    refine W_move rfl rfl ?_
    refine W_gyes rfl rfl ?_
    refine W_bin rfl rfl b_lss rfl ?_
    exact W_met rfl (by repeat (first | exact .refl | refine .cons rfl ?_))
  refine W_nil ?_
  refine W_condPS (p := (i : Int) < (l.length : Int) ∧ (i : Int) < 100) rfl (by first | exact Iff.rfl | simp) (fun q0 => ?_) (fun q0 => ?_)
  · skip
    refine W_skip ?_
    refine W_seq ?_
    refine W_block ?_
    refine W_sr ?_
    obtain ⟨x_a, hx_a⟩ : ∃ x, l[i]? = some x := ⟨_, List.getElem?_eq_getElem (by omega)⟩
    obtain ⟨q0, p0, rfl, hc⟩ := hrow.at (i := i) (v := .int .u64 x_a) (by rw [List.getElem?_map, hx_a]; rfl)
    have ha0 := hwf x_a (List.mem_of_getElem? hx_a)
    have hg_a : (l.getD i 0) = x_a := by rw [List.getD_eq_getElem?_getD, hx_a]; rfl
    obtain ⟨a, rfl⟩ : ∃ a : Nat, x_a = (a : Int) := ⟨x_a.toNat, by omega⟩
    have ha : a ≤ 18446744073709551615 := by omega
    refine W_move rfl rfl ?_
    refine W_move rfl rfl ?_
    refine W_move rfl rfl ?_
    refine W_move rfl rfl ?_
    refine W_indexAddr (j := i) rfl rfl ty23 ty22 rfl (by omega) rfl rfl ?_
    refine W_load (v := .int .u64 ((a : Nat) : Int)) rfl ty22 rfl (by rw [Nat.mul_one]; exact hc.up (by repeat (first | with_reducible exact HSub.refl _ | refine HSub.cons (by repeat (first | exact Take.here _ | apply Take.next | apply Take.app)) ?_ | refine HSub.app (by repeat (first | with_reducible exact TakeS.here _ | apply TakeS.next | apply TakeS.app)) ?_ | exact HSub.nil _ | exact HSub.refl _ | refine HSub.drop ?_ | refine HSub.dropS ?_))) rfl ?_
    refine W_call (.cons rfl (.cons rfl (.cons rfl .nil))) Tryd.call14 rfl ((Put_L (id := (i : Int)) (a := a) hWA hnow ha (by omega) (puts_new now l i) (by omega) (H := HWB ++ H)).hsub (by repeat (first | with_reducible exact HSub.refl _ | refine HSub.cons (by repeat (first | exact Take.here _ | apply Take.next | apply Take.app)) ?_ | refine HSub.app (by repeat (first | with_reducible exact TakeS.here _ | apply TakeS.next | apply TakeS.app)) ?_ | exact HSub.nil _ | exact HSub.refl _ | refine HSub.drop ?_ | refine HSub.dropS ?_))) ?_
    rintro v H' ⟨HWA2, hHWA2, rfl, rfl⟩
    refine W_move rfl rfl ?_
    refine W_extract rfl rfl rfl ?_
    refine W_extract rfl rfl rfl ?_
    refine W_alloc (l := zSpot.v) ty27 rfl rfl (fun b12 => ?_)
    refine W_storeA (l' := (placeT now a).1.v) rfl rfl ty27 rfl rfl (b := b12) (by repeat (first | exact List.mem_cons_self | apply List.mem_cons_of_mem | apply List.mem_append_right)) (by exact Nat.le_refl 4) rfl (by repeat (first | exact Upd.head _ | apply Upd.tail | apply Upd.app)) ?_
    refine W_assign rfl rfl ?_
    refine W_nil ?_
    refine W_sr ?_
    refine W_move rfl rfl ?_
    refine W_move rfl rfl ?_
    refine W_move rfl rfl ?_
    refine W_move rfl rfl ?_
    refine W_indexAddr (j := i) rfl rfl ty23 ty22 rfl (by omega) rfl rfl ?_
    refine W_load (v := .int .u64 ((a : Nat) : Int)) rfl ty22 rfl (by rw [Nat.mul_one]; exact hc.up (by repeat (first | with_reducible exact HSub.refl _ | refine HSub.cons (by repeat (first | exact Take.here _ | apply Take.next | apply Take.app)) ?_ | refine HSub.app (by repeat (first | with_reducible exact TakeS.here _ | apply TakeS.next | apply TakeS.app)) ?_ | exact HSub.nil _ | exact HSub.refl _ | refine HSub.drop ?_ | refine HSub.dropS ?_))) rfl ?_
    refine W_call (.cons rfl (.cons rfl (.cons rfl .nil))) Tryd.call14 rfl ((Put_L (id := (i : Int)) (a := a) hWB hnow ha (by omega) (puts_new now l i) (by omega) (H := (b12, .cells 27 4 (placeT now a).1.v) :: (HWA2 ++ H))).hsub (by repeat (first | with_reducible exact HSub.refl _ | refine HSub.cons (by repeat (first | exact Take.here _ | apply Take.next | apply Take.app)) ?_ | refine HSub.app (by repeat (first | with_reducible exact TakeS.here _ | apply TakeS.next | apply TakeS.app)) ?_ | exact HSub.nil _ | exact HSub.refl _ | refine HSub.drop ?_ | refine HSub.dropS ?_))) ?_
    rintro v H' ⟨HWB2, hHWB2, rfl, rfl⟩
    refine W_move rfl rfl ?_
    refine W_extract rfl rfl rfl ?_
    refine W_extract rfl rfl rfl ?_
    refine W_alloc (l := zSpot.v) ty27 rfl rfl (fun b14 => ?_)
    refine W_storeA (l' := (placeT now a).1.v) rfl rfl ty27 rfl rfl (b := b14) (by repeat (first | exact List.mem_cons_self | apply List.mem_cons_of_mem | apply List.mem_append_right)) (by exact Nat.le_refl 4) rfl (by repeat (first | exact Upd.head _ | apply Upd.tail | apply Upd.app)) ?_
    refine W_assign rfl rfl ?_
    refine W_nil ?_
    refine W_sr ?_
    refine W_loadB (vs := (placeT now a).1.v) rfl ty27 rfl (b := b12) (by repeat (first | exact List.mem_cons_self | apply List.mem_cons_of_mem | apply List.mem_append_right)) rfl rfl rfl ?_
    refine W_loadB (vs := (placeT now a).1.v) rfl ty27 rfl (b := b14) (by repeat (first | exact List.mem_cons_self | apply List.mem_cons_of_mem | apply List.mem_append_right)) rfl rfl rfl ?_
    refine W_x (X_neA rfl rfl ty27 (by kernel_rfl) (by kernel_rfl) (.cons (by decide) ty3 rfl rfl rfl (eqv_int ty3) (.cons (by decide) ty3 rfl rfl rfl (eqv_int ty3) (.cons (by decide) ty22 rfl rfl rfl (eqv_int ty22) (.cons (by decide) ty22 rfl rfl rfl (eqv_int ty22) .nil))))) (fun _ h => by cases h) rfl ?_
    simp only [eq_self, decide_true, Bool.and_true, Bool.not_true]
    refine W_move rfl rfl ?_
    refine W_gyes rfl rfl ?_
    refine W_move rfl rfl ?_
    refine W_gyes rfl rfl ?_
    refine W_move rfl rfl ?_
    refine W_gyes rfl rfl ?_
    refine W_bin rfl rfl b_neq rfl ?_
    first | refine W_pickt rfl rfl rfl ?_ | refine W_pickf rfl rfl rfl ?_
    refine W_nil ?_
    refine W_condF rfl rfl ?_
    refine W_skip ?_
    refine W_blk ?_
    refine W_region ?_
    refine W_move rfl rfl ?_
    refine W_bin rfl rfl (b_add (m := ((i + 1 : Nat) : Int)) ((i64w (by omega)).trans (by omega))) rfl ?_
    refine W_assign rfl rfl ?_
    refine W_nil ?_
    refine W_again (i + 1, HWA2, HWB2) ⟨by show i + 1 ≤ l.length; omega, by show i + 1 ≤ 100; omega, by show WheelH bw1 now (putsT now l (i + 1)) (i + 1) HWA2; rw [show putsT now l (i + 1) = putsT now l i ++ [tmOf now a i (i : Int)] from by show _ ++ [tmOf now (l.getD i 0).toNat i (i : Int)] = _; rw [hg_a]; rfl]; exact hHWA2, by show WheelH bw2 now (putsT now l (i + 1)) (i + 1) HWB2; rw [show putsT now l (i + 1) = putsT now l i ++ [tmOf now a i (i : Int)] from by show _ ++ [tmOf now (l.getD i 0).toNat i (i : Int)] = _; rw [hg_a]; rfl]; exact hHWB2⟩ (by show l.length - (i + 1) < l.length - i; omega) (sub_cons rfl (sub_cons rfl (sub_cons rfl (sub_cons rfl (sub_cons rfl (sub_cons rfl (sub_nil _))))))) rfl (by repeat (first | with_reducible exact HSub.refl _ | refine HSub.cons (by repeat (first | exact Take.here _ | apply Take.next | apply Take.app)) ?_ | refine HSub.app (by repeat (first | with_reducible exact TakeS.here _ | apply TakeS.next | apply TakeS.app)) ?_ | exact HSub.nil _ | exact HSub.refl _ | refine HSub.drop ?_ | refine HSub.dropS ?_))
  · skip
    refine W_exit rfl ?_
    refine W_sr ?_
    refine W_assign rfl rfl ?_
    refine W_nil ?_
    refine W_seq ?_
    refine W_sr ?_
    refine W_assign rfl rfl ?_
    refine W_nil ?_
    refine W_block ?_
    have hids := hWA.ids
    have hlen0 := hids.2.2.2
    obtain ⟨L, hL⟩ : ∃ L, L = (putsT now l i) := ⟨_, rfl⟩
    rw [← hL] at hWA hWB hids hlen0
    clear hL
    have hstart : Gone now now L L [] := Gone.start (hWA.later hnow)
    obtain ⟨tn, htn⟩ : ∃ tn, tn = i := ⟨_, rfl⟩
    rw [← htn] at hWA hWB
    clear htn
    refine W_loopC (X := WsS) [(1, _), (3, _), (9, _), (10, _)] (fun (x : WsS) => [(16, x.v), (17, .int .i64 (x.i : Int))]) (fun _ => _) (fun (x : WsS) => HWA ++ (x.HB ++ (x.XO ++ H))) (fun (x : WsS) => x.i ≤ s.length ∧ WheelH bw2 x.nw x.Lb tn x.HB ∧ Gone now x.nw L x.Lb x.Ob ∧ x.nw ≤ max now fin ∧ OwnS 3 1 x.v x.Ob.length ((x.Ob.map (·.id)).map (Value.int .i64)) x.XO) (fun (x : WsS) => s.length - x.i) ⟨0, now, L, [], .slice none 0 0, [], HWB⟩ ⟨Nat.zero_le _, hWB, hstart, Nat.le_max_left _ _, OwnS.nil⟩ (sub_cons rfl (sub_cons rfl (sub_cons rfl (sub_cons rfl (sub_nil _))))) (sub_cons rfl (sub_cons rfl (sub_nil _))) rfl (.refl _) ?_
    rintro ⟨k, nw, Lb, Ob, v, XO, HB⟩ ⟨hk, hWb, hG, hnf, hO⟩
    dsimp only at hk hWb hG hnf hO ⊢
    have hOl := hG.len
    simp only [List.cons_append, List.nil_append]
    refine W_seq ?_
    refine W_sr ?_
    refine W_move rfl rfl ?_
    refine W_move rfl rfl ?_
    refine W_len rfl ty23 rfl rfl ?_
    refine W_bin rfl rfl b_lss rfl ?_
    refine W_move rfl rfl ?_
    apply W_and
    iterate 4 exact rfl
    case h1 =>
      intro hg4
      refine W_gyes rfl rfl ?_
      refine W_move rfl rfl ?_
      refine W_gyes rfl rfl ?_
      refine W_bin rfl rfl b_lss rfl ?_
      exact W_met rfl (by repeat (first | exact .refl | refine .cons rfl ?_))
    refine W_nil ?_
    refine W_condPS (p := (k : Int) < (s.length : Int) ∧ (k : Int) < 40) rfl (by first | exact Iff.rfl | simp) (fun q1 => ?_) (fun q1 => ?_)
    · skip
      refine W_skip ?_
      refine W_seq ?_
      refine W_block ?_
      refine W_region ?_
      obtain ⟨x_a, hx_a⟩ : ∃ x, s[k]? = some x := ⟨_, List.getElem?_eq_getElem (by omega)⟩
      obtain ⟨q0, p0, rfl, hc⟩ := hrows.at (i := k) (v := .int .u64 x_a) (by rw [List.getElem?_map, hx_a]; rfl)
      have ha0 := hwfs x_a (List.mem_of_getElem? hx_a)
      have hg_a : (s.getD k 0) = x_a := by rw [List.getD_eq_getElem?_getD, hx_a]; rfl
      obtain ⟨a, rfl⟩ : ∃ a : Nat, x_a = (a : Int) := ⟨x_a.toNat, by omega⟩
      have ha : a ≤ 18446744073709551615 := by omega
      refine W_move rfl rfl ?_
      refine W_move rfl rfl ?_
      refine W_move rfl rfl ?_
      refine W_move rfl rfl ?_
      refine W_indexAddr (j := k) rfl rfl ty23 ty22 rfl (by omega) rfl rfl ?_
      refine W_load (v := .int .u64 ((a : Nat) : Int)) rfl ty22 rfl (by rw [Nat.mul_one]; exact hc.up (by repeat (first | with_reducible exact HSub.refl _ | refine HSub.cons (by repeat (first | exact Take.here _ | apply Take.next | apply Take.app)) ?_ | refine HSub.app (by repeat (first | with_reducible exact TakeS.here _ | apply TakeS.next | apply TakeS.app)) ?_ | exact HSub.nil _ | exact HSub.refl _ | refine HSub.drop ?_ | refine HSub.dropS ?_))) rfl ?_
      refine W_move rfl rfl ?_
      refine W_min2 rfl rfl (m := ((min a fin : Nat) : Int)) (by split <;> omega) rfl ?_
      refine W_call (.cons rfl (.cons rfl .nil)) Tryd.call18 rfl ((To_any (a := min a fin) hT hWb hG.ahead (by omega) (H := HWA ++ (XO ++ H))).hsub (by repeat (first | with_reducible exact HSub.refl _ | refine HSub.cons (by repeat (first | exact Take.here _ | apply Take.next | apply Take.app)) ?_ | refine HSub.app (by repeat (first | with_reducible exact TakeS.here _ | apply TakeS.next | apply TakeS.app)) ?_ | exact HSub.nil _ | exact HSub.refl _ | refine HSub.drop ?_ | refine HSub.dropS ?_))) ?_
      rintro v' H' ⟨O2, Lb2, HB2, XO2, hWb2, hG2, hO2, rfl⟩
      obtain ⟨ad2, cap2, rfl, _, _⟩ := hO2.shape
      have hO2l : (Ob ++ O2).length ≤ L.length := (hG.trans hG2).len
      rw [List.length_append] at hO2l
      refine W_append (news := (O2.map (·.id)).map (Value.int .i64)) (m := O2.length) (HB := XO) (H0 := XO2 ++ (HB2 ++ (HWA ++ H))) rfl rfl ty35 ty3 rfl (by decide) hO (by rw [List.length_map, List.length_map, Nat.mul_one]) (OwnS.holds hO2 (fun p hp => List.mem_append_left _ hp)) (by rw [List.all_eq_true]; intro u hu; obtain ⟨q, _, rfl⟩ := List.mem_map.1 hu; rfl) (by simp only [maxLen]; omega) (by omega) (by repeat (first | with_reducible exact HSub.refl _ | refine HSub.cons (by repeat (first | exact Take.here _ | apply Take.next | apply Take.app)) ?_ | refine HSub.app (by repeat (first | with_reducible exact TakeS.here _ | apply TakeS.next | apply TakeS.app)) ?_ | exact HSub.nil _ | exact HSub.refl _ | refine HSub.drop ?_ | refine HSub.dropS ?_)) rfl (fun v' X' hO' => ?_)
      refine W_assign rfl rfl ?_
      refine W_nil ?_
      refine W_blk ?_
      refine W_region ?_
      refine W_move rfl rfl ?_
      refine W_bin rfl rfl (b_add (m := ((k + 1 : Nat) : Int)) ((i64w (by omega)).trans (by omega))) rfl ?_
      refine W_assign rfl rfl ?_
      refine W_nil ?_
      refine W_again ⟨k + 1, max nw (min a fin), Lb2, Ob ++ O2, v', X', HB2⟩ ⟨by show k + 1 ≤ s.length; omega, hWb2, hG.trans hG2, by show max nw (min a fin) ≤ _; omega, by show OwnS 3 1 v' (Ob ++ O2).length (((Ob ++ O2).map (·.id)).map (Value.int .i64)) X'; rw [List.map_append, List.map_append, List.length_append]; exact hO'⟩ (by show s.length - (k + 1) < s.length - k; omega) (sub_cons rfl (sub_cons rfl (sub_cons rfl (sub_cons rfl (sub_cons rfl (sub_cons rfl (sub_nil _))))))) rfl (by repeat (first | with_reducible exact HSub.refl _ | refine HSub.cons (by repeat (first | exact Take.here _ | apply Take.next | apply Take.app)) ?_ | refine HSub.app (by repeat (first | with_reducible exact TakeS.here _ | apply TakeS.next | apply TakeS.app)) ?_ | exact HSub.nil _ | exact HSub.refl _ | refine HSub.drop ?_ | refine HSub.dropS ?_))
    · skip
      refine W_exit rfl ?_
      refine W_sr ?_
      refine W_move rfl rfl ?_
      refine W_move rfl rfl ?_
      refine W_move rfl rfl ?_
      refine W_call (.cons rfl (.cons rfl .nil)) Tryd.call18 rfl ((To_any (a := fin) hT hWb hG.ahead hfin (H := HWA ++ (XO ++ H))).hsub (by repeat (first | with_reducible exact HSub.refl _ | refine HSub.cons (by repeat (first | exact Take.here _ | apply Take.next | apply Take.app)) ?_ | refine HSub.app (by repeat (first | with_reducible exact TakeS.here _ | apply TakeS.next | apply TakeS.app)) ?_ | exact HSub.nil _ | exact HSub.refl _ | refine HSub.drop ?_ | refine HSub.dropS ?_))) ?_
      rintro v' H' ⟨O2, Lb2, HB2, XO2, hWb2, hG2, hO2, rfl⟩
      obtain ⟨ad2, cap2, rfl, _, _⟩ := hO2.shape
      have hO2l : (Ob ++ O2).length ≤ L.length := (hG.trans hG2).len
      rw [List.length_append] at hO2l
      refine W_append (news := (O2.map (·.id)).map (Value.int .i64)) (m := O2.length) (HB := XO) (H0 := XO2 ++ (HB2 ++ (HWA ++ H))) rfl rfl ty35 ty3 rfl (by decide) hO (by rw [List.length_map, List.length_map, Nat.mul_one]) (OwnS.holds hO2 (fun p hp => List.mem_append_left _ hp)) (by rw [List.all_eq_true]; intro u hu; obtain ⟨q, _, rfl⟩ := List.mem_map.1 hu; rfl) (by simp only [maxLen]; omega) (by omega) (by repeat (first | with_reducible exact HSub.refl _ | refine HSub.cons (by repeat (first | exact Take.here _ | apply Take.next | apply Take.app)) ?_ | refine HSub.app (by repeat (first | with_reducible exact TakeS.here _ | apply TakeS.next | apply TakeS.app)) ?_ | exact HSub.nil _ | exact HSub.refl _ | refine HSub.drop ?_ | refine HSub.dropS ?_)) rfl (fun v' X' hO' => ?_)
      refine W_assign rfl rfl ?_
      refine W_nil ?_
      refine W_sr ?_
      refine W_callp .nil Tryd.call16 rfl hT known_pure ?_
      refine W_move rfl rfl ?_
      refine W_gyes rfl rfl ?_
      refine W_move rfl rfl ?_
      refine W_gyes rfl rfl ?_
      refine W_move rfl rfl ?_
      refine W_gyes rfl rfl ?_
      have hGb := hG.trans hG2
      have hmf : max nw fin = max now fin := by have := hG.le; omega
      rw [hmf] at hGb hWb2
      refine W_call (.cons rfl (.cons rfl .nil)) Tryd.call18 rfl ((To_any (a := fin) hT hWA hstart.ahead hfin (H := X' ++ (HB2 ++ H))).hsub (by repeat (first | with_reducible exact HSub.refl _ | refine HSub.cons (by repeat (first | exact Take.here _ | apply Take.next | apply Take.app)) ?_ | refine HSub.app (by repeat (first | with_reducible exact TakeS.here _ | apply TakeS.next | apply TakeS.app)) ?_ | exact HSub.nil _ | exact HSub.refl _ | refine HSub.drop ?_ | refine HSub.dropS ?_))) ?_
      rintro v3 H' ⟨O3, La3, HA3, XO3, hWa3, hGa, hO3, rfl⟩
      obtain ⟨rfl, rfl⟩ := hGa.same hGb
      obtain ⟨ad3, cap3, rfl, _, _⟩ := hO3.shape
      have hOq : OwnS 3 1 v' (Ob ++ O2).length (((Ob ++ O2).map (·.id)).map (Value.int .i64)) X' := by rw [List.map_append, List.map_append, List.length_append]; exact hO'
      obtain ⟨ad4, cap4, rfl, _, _⟩ := hOq.shape
      refine W_gyes rfl rfl ?_
      refine W_move rfl rfl ?_
      refine W_gyes rfl rfl ?_
      have hsl : (((Ob ++ O2).map (·.id)).length : Nat) = (Ob ++ O2).length := List.length_map _
      refine W_callq (.cons (by rw [hsl]; rfl) (.cons (by rw [hsl]; rfl) .nil)) Tryd.call37 rfl (same_q (l := ((Ob ++ O2).map (·.id))) (r := ((Ob ++ O2).map (·.id))) (OwnS.holds hO3 (fun p hp => List.mem_append_left _ hp)) (OwnS.holds hOq (fun p hp => List.mem_append_right _ (List.mem_append_right _ (List.mem_append_left _ hp)))) (by rw [List.length_map, List.length_append]; omega)) ?_
      rw [decide_eq_true rfl]
      first | refine W_pickt rfl rfl rfl ?_ | refine W_pickf rfl rfl rfl ?_
      refine W_move rfl rfl ?_
      refine W_gyes rfl rfl ?_
      refine W_move rfl rfl ?_
      refine W_gyes rfl rfl ?_
      refine W_call (.cons rfl .nil) Tryd.call19 rfl (LCalls.hsub (Now_W (H := XO3 ++ (X' ++ (HB2 ++ H))) hWa3) (by repeat (first | with_reducible exact HSub.refl _ | refine HSub.cons (by repeat (first | exact Take.here _ | apply Take.next | apply Take.app)) ?_ | refine HSub.app (by repeat (first | with_reducible exact TakeS.here _ | apply TakeS.next | apply TakeS.app)) ?_ | exact HSub.nil _ | exact HSub.refl _ | refine HSub.drop ?_ | refine HSub.dropS ?_))) ?_
      rintro v H' ⟨rfl, rfl⟩
      refine W_gyes rfl rfl ?_
      refine W_move rfl rfl ?_
      refine W_gyes rfl rfl ?_
      refine W_call (.cons rfl .nil) Tryd.call19 rfl (LCalls.hsub (Now_W (H := HA3 ++ (XO3 ++ (X' ++ H))) hWb2) (by repeat (first | with_reducible exact HSub.refl _ | refine HSub.cons (by repeat (first | exact Take.here _ | apply Take.next | apply Take.app)) ?_ | refine HSub.app (by repeat (first | with_reducible exact TakeS.here _ | apply TakeS.next | apply TakeS.app)) ?_ | exact HSub.nil _ | exact HSub.refl _ | refine HSub.drop ?_ | refine HSub.dropS ?_))) ?_
      rintro v H' ⟨rfl, rfl⟩
      refine W_gyes rfl rfl ?_
      refine W_bin rfl rfl b_eql rfl ?_
      rw [decide_eq_true rfl]
      first | refine W_pickt rfl rfl rfl ?_ | refine W_pickf rfl rfl rfl ?_
      refine W_move rfl rfl ?_
      refine W_gyes rfl rfl ?_
      refine W_move rfl rfl ?_
      refine W_gyes rfl rfl ?_
      refine W_call (.cons rfl .nil) Tryd.call43 rfl ((Ids_W hWa3 (H := HB2 ++ H)).hsub (by repeat (first | with_reducible exact HSub.refl _ | refine HSub.cons (by repeat (first | exact Take.here _ | apply Take.next | apply Take.app)) ?_ | refine HSub.app (by repeat (first | with_reducible exact TakeS.here _ | apply TakeS.next | apply TakeS.app)) ?_ | exact HSub.nil _ | exact HSub.refl _ | refine HSub.drop ?_ | refine HSub.dropS ?_))) ?_
      rintro v5 H' ⟨XI5, hI5, rfl⟩
      obtain ⟨ad5, cap5, rfl, _, _⟩ := hI5.shape
      refine W_gyes rfl rfl ?_
      refine W_move rfl rfl ?_
      refine W_gyes rfl rfl ?_
      refine W_call (.cons rfl .nil) Tryd.call43 rfl ((Ids_W hWb2 (H := XI5 ++ (HA3 ++ H))).hsub (by repeat (first | with_reducible exact HSub.refl _ | refine HSub.cons (by repeat (first | exact Take.here _ | apply Take.next | apply Take.app)) ?_ | refine HSub.app (by repeat (first | with_reducible exact TakeS.here _ | apply TakeS.next | apply TakeS.app)) ?_ | exact HSub.nil _ | exact HSub.refl _ | refine HSub.drop ?_ | refine HSub.dropS ?_))) ?_
      rintro v6 H' ⟨XI6, hI6, rfl⟩
      obtain ⟨ad6, cap6, rfl, _, _⟩ := hI6.shape
      refine W_gyes rfl rfl ?_
      have hlen6 : (sortI (La3.map (·.id))).length ≤ 4611686018427387904 := by rw [(sortI_perm _).length_eq, List.length_map]; have := hWa3.ids.2.2.2; omega
      have hh5 : Holds w0 (XI6 ++ (HB2 ++ (XI5 ++ (HA3 ++ H)))) ad5 ((sortI (La3.map (·.id))).map (Value.int .i64)) := OwnS.holds hI5 (fun p hp => List.mem_append_right _ (List.mem_append_right _ (List.mem_append_left _ hp)))
      have hh6 : Holds w0 (XI6 ++ (HB2 ++ (XI5 ++ (HA3 ++ H)))) ad6 ((sortI (La3.map (·.id))).map (Value.int .i64)) := OwnS.holds hI6 (fun p hp => List.mem_append_left _ hp)
      have hsm := same_q (c1 := cap5) (c2 := cap6) hh5 hh6 hlen6
      refine W_callq (.cons rfl (.cons rfl .nil)) Tryd.call37 rfl hsm ?_
      rw [decide_eq_true rfl]
      first | refine W_pickt rfl rfl rfl ?_ | refine W_pickf rfl rfl rfl ?_
      refine W_assign rfl rfl ?_
      refine W_nil ?_
      refine W_ret1m (H2 := H) Tryd.results10 rfl (.nil _) (by repeat (first | with_reducible exact HSub.refl _ | refine HSub.cons (by repeat (first | exact Take.here _ | apply Take.next | apply Take.app)) ?_ | refine HSub.app (by repeat (first | with_reducible exact TakeS.here _ | apply TakeS.next | apply TakeS.app)) ?_ | exact HSub.nil _ | exact HSub.refl _ | refine HSub.drop ?_ | refine HSub.dropS ?_)) ?_
      exact ⟨rfl, rfl⟩
set_option maxHeartbeats 4000000 in
theorem wheelSteps_M {now fin : Nat} {l s : List Int} {ad as_ : Option Addr} {cap caps : Nat} (hwf : ∀ b ∈ l, 0 ≤ b ∧ b ≤ 18446744073709551615) (hwfs : ∀ b ∈ s, 0 ≤ b ∧ b ≤ 18446744073709551615) (hcap : l.length ≤ 9223372036854775807) (hcaps : s.length ≤ 9223372036854775807) (hfin : fin ≤ 18446744073709551615) : Pure Tryd.prog (fun w => Tab w ∧ InRow w ad (l.map (Value.int .u64)) ∧ InRow w as_ (s.map (Value.int .u64))) 10 [.int .u64 ((18446744073709551615 : Nat) : Int), .int .u64 ((fin : Nat) : Int), .slice ad l.length cap, .slice as_ s.length caps] (.bool true) := by
  intro w0 H hT
  have hrow : Holds w0 H ad (l.map (Value.int .u64)) := Holds.old hT.2.1
  have hrows : Holds w0 H as_ (s.map (Value.int .u64)) := Holds.old hT.2.2
  replace hT := hT.1
  refine L_enter Tryd.func10 rfl Tryd.ntmps10 rfl rfl ?_
  refine W_sr ?_
  refine W_assign rfl rfl ?_
  refine W_nil ?_
  refine W_sr ?_
  refine W_move rfl rfl ?_
  refine W_call (.cons rfl .nil) Tryd.call13 rfl ((New_W (now := 18446744073709551615) (H := H)).hsub (by repeat (first | with_reducible exact HSub.refl _ | refine HSub.cons (by repeat (first | exact Take.here _ | apply Take.next | apply Take.app)) ?_ | refine HSub.app (by repeat (first | with_reducible exact TakeS.here _ | apply TakeS.next | apply TakeS.app)) ?_ | exact HSub.nil _ | exact HSub.refl _ | refine HSub.drop ?_ | refine HSub.dropS ?_))) ?_
  rintro v H' ⟨bw1, HW1, rfl, hW1, rfl⟩
  refine W_move rfl rfl ?_
  refine W_call (.cons rfl .nil) Tryd.call13 rfl ((New_W (now := 18446744073709551615) (H := HW1 ++ H)).hsub (by repeat (first | with_reducible exact HSub.refl _ | refine HSub.cons (by repeat (first | exact Take.here _ | apply Take.next | apply Take.app)) ?_ | refine HSub.app (by repeat (first | with_reducible exact TakeS.here _ | apply TakeS.next | apply TakeS.app)) ?_ | exact HSub.nil _ | exact HSub.refl _ | refine HSub.drop ?_ | refine HSub.dropS ?_))) ?_
  rintro v H' ⟨bw2, HW2, rfl, hW2, rfl⟩
  refine W_assign rfl rfl ?_
  refine W_assign rfl rfl ?_
  refine W_nil ?_
  refine W_seq ?_
  refine W_sr ?_
  refine W_assign rfl rfl ?_
  refine W_nil ?_
  refine W_block ?_
  refine W_loopC (X := (Nat × Heap × Heap)) [(1, _), (2, _), (3, _), (9, _), (10, _)] (fun (x : (Nat × Heap × Heap)) => [(11, .int .i64 (x.1 : Int))]) (fun _ => _) (fun (x : (Nat × Heap × Heap)) => x.2.1 ++ (x.2.2 ++ H)) (fun (x : (Nat × Heap × Heap)) => x.1 ≤ l.length ∧ x.1 ≤ 100 ∧ WheelH bw1 18446744073709551615 ([] : List Tm) 0 x.2.1 ∧ WheelH bw2 18446744073709551615 ([] : List Tm) 0 x.2.2) (fun (x : (Nat × Heap × Heap)) => l.length - x.1) (0, HW1, HW2) ⟨Nat.zero_le _, Nat.zero_le _, hW1, hW2⟩ (sub_cons rfl (sub_cons rfl (sub_cons rfl (sub_cons rfl (sub_cons rfl (sub_nil _)))))) (sub_cons rfl (sub_nil _)) rfl (by repeat (first | with_reducible exact HSub.refl _ | refine HSub.cons (by repeat (first | exact Take.here _ | apply Take.next | apply Take.app)) ?_ | refine HSub.app (by repeat (first | with_reducible exact TakeS.here _ | apply TakeS.next | apply TakeS.app)) ?_ | exact HSub.nil _ | exact HSub.refl _ | refine HSub.drop ?_ | refine HSub.dropS ?_)) ?_
  rintro ⟨i, HWA, HWB⟩ ⟨hi, hi2, hWA, hWB⟩
  dsimp only at hi hi2 hWA hWB ⊢
  simp only [List.cons_append, List.nil_append]
  refine W_seq ?_
  refine W_sr ?_
  refine W_move rfl rfl ?_
  refine W_move rfl rfl ?_
  refine W_len rfl ty23 rfl rfl ?_
  refine W_bin rfl rfl b_lss rfl ?_
  refine W_move rfl rfl ?_
  apply W_and
  iterate 4 exact rfl
  case h1 =>
    intro hg4
    refine W_gyes rfl rfl ?_
    refine W_move rfl rfl ?_
    refine W_gyes rfl rfl ?_
    refine W_bin rfl rfl b_lss rfl ?_
    exact W_met rfl (by repeat (first | exact .refl | refine .cons rfl ?_))
  refine W_nil ?_
  refine W_condPS (p := (i : Int) < (l.length : Int) ∧ (i : Int) < 100) rfl (by first | exact Iff.rfl | simp) (fun q0 => ?_) (fun q0 => ?_)
  · skip
    refine W_skip ?_
    refine W_seq ?_
    refine W_block ?_
    refine W_sr ?_
    obtain ⟨x_a, hx_a⟩ : ∃ x, l[i]? = some x := ⟨_, List.getElem?_eq_getElem (by omega)⟩
    obtain ⟨q0, p0, rfl, hc⟩ := hrow.at (i := i) (v := .int .u64 x_a) (by rw [List.getElem?_map, hx_a]; rfl)
    have ha0 := hwf x_a (List.mem_of_getElem? hx_a)
    have hg_a : (l.getD i 0) = x_a := by rw [List.getD_eq_getElem?_getD, hx_a]; rfl
    obtain ⟨a, rfl⟩ : ∃ a : Nat, x_a = (a : Int) := ⟨x_a.toNat, by omega⟩
    have ha : a ≤ 18446744073709551615 := by omega
    refine W_move rfl rfl ?_
    refine W_move rfl rfl ?_
    refine W_move rfl rfl ?_
    refine W_move rfl rfl ?_
    refine W_indexAddr (j := i) rfl rfl ty23 ty22 rfl (by omega) rfl rfl ?_
    refine W_load (v := .int .u64 ((a : Nat) : Int)) rfl ty22 rfl (by rw [Nat.mul_one]; exact hc.up (by repeat (first | with_reducible exact HSub.refl _ | refine HSub.cons (by repeat (first | exact Take.here _ | apply Take.next | apply Take.app)) ?_ | refine HSub.app (by repeat (first | with_reducible exact TakeS.here _ | apply TakeS.next | apply TakeS.app)) ?_ | exact HSub.nil _ | exact HSub.refl _ | refine HSub.drop ?_ | refine HSub.dropS ?_))) rfl ?_
    refine W_call (.cons rfl (.cons rfl (.cons rfl .nil))) Tryd.call14 rfl ((Put_late (id := (i : Int)) (a := a) hWA (by omega) ha (by simp) (H := HWB ++ H)).hsub (by repeat (first | with_reducible exact HSub.refl _ | refine HSub.cons (by repeat (first | exact Take.here _ | apply Take.next | apply Take.app)) ?_ | refine HSub.app (by repeat (first | with_reducible exact TakeS.here _ | apply TakeS.next | apply TakeS.app)) ?_ | exact HSub.nil _ | exact HSub.refl _ | refine HSub.drop ?_ | refine HSub.dropS ?_))) ?_
    rintro v H' ⟨rfl, rfl⟩
    refine W_move rfl rfl ?_
    refine W_extract rfl rfl rfl ?_
    refine W_extract rfl rfl rfl ?_
    refine W_alloc (l := zSpot.v) ty27 rfl rfl (fun b12 => ?_)
    refine W_storeA (l' := zSpot.v) rfl rfl ty27 rfl rfl (b := b12) (by repeat (first | exact List.mem_cons_self | apply List.mem_cons_of_mem | apply List.mem_append_right)) (by exact Nat.le_refl 4) rfl (by repeat (first | exact Upd.head _ | apply Upd.tail | apply Upd.app)) ?_
    refine W_assign rfl rfl ?_
    refine W_nil ?_
    refine W_sr ?_
    refine W_move rfl rfl ?_
    refine W_move rfl rfl ?_
    refine W_move rfl rfl ?_
    refine W_move rfl rfl ?_
    refine W_indexAddr (j := i) rfl rfl ty23 ty22 rfl (by omega) rfl rfl ?_
    refine W_load (v := .int .u64 ((a : Nat) : Int)) rfl ty22 rfl (by rw [Nat.mul_one]; exact hc.up (by repeat (first | with_reducible exact HSub.refl _ | refine HSub.cons (by repeat (first | exact Take.here _ | apply Take.next | apply Take.app)) ?_ | refine HSub.app (by repeat (first | with_reducible exact TakeS.here _ | apply TakeS.next | apply TakeS.app)) ?_ | exact HSub.nil _ | exact HSub.refl _ | refine HSub.drop ?_ | refine HSub.dropS ?_))) rfl ?_
    refine W_call (.cons rfl (.cons rfl (.cons rfl .nil))) Tryd.call14 rfl ((Put_late (id := (i : Int)) (a := a) hWB (by omega) ha (by simp) (H := (b12, .cells 27 4 zSpot.v) :: (HWA ++ H))).hsub (by repeat (first | with_reducible exact HSub.refl _ | refine HSub.cons (by repeat (first | exact Take.here _ | apply Take.next | apply Take.app)) ?_ | refine HSub.app (by repeat (first | with_reducible exact TakeS.here _ | apply TakeS.next | apply TakeS.app)) ?_ | exact HSub.nil _ | exact HSub.refl _ | refine HSub.drop ?_ | refine HSub.dropS ?_))) ?_
    rintro v H' ⟨rfl, rfl⟩
    refine W_move rfl rfl ?_
    refine W_extract rfl rfl rfl ?_
    refine W_extract rfl rfl rfl ?_
    refine W_alloc (l := zSpot.v) ty27 rfl rfl (fun b14 => ?_)
    refine W_storeA (l' := zSpot.v) rfl rfl ty27 rfl rfl (b := b14) (by repeat (first | exact List.mem_cons_self | apply List.mem_cons_of_mem | apply List.mem_append_right)) (by exact Nat.le_refl 4) rfl (by repeat (first | exact Upd.head _ | apply Upd.tail | apply Upd.app)) ?_
    refine W_assign rfl rfl ?_
    refine W_nil ?_
    refine W_sr ?_
    refine W_loadB (vs := zSpot.v) rfl ty27 rfl (b := b12) (by repeat (first | exact List.mem_cons_self | apply List.mem_cons_of_mem | apply List.mem_append_right)) rfl rfl rfl ?_
    refine W_loadB (vs := zSpot.v) rfl ty27 rfl (b := b14) (by repeat (first | exact List.mem_cons_self | apply List.mem_cons_of_mem | apply List.mem_append_right)) rfl rfl rfl ?_
    refine W_x (X_neA rfl rfl ty27 (by kernel_rfl) (by kernel_rfl) (.cons (by decide) ty3 rfl rfl rfl (eqv_int ty3) (.cons (by decide) ty3 rfl rfl rfl (eqv_int ty3) (.cons (by decide) ty22 rfl rfl rfl (eqv_int ty22) (.cons (by decide) ty22 rfl rfl rfl (eqv_int ty22) .nil))))) (fun _ h => by cases h) rfl ?_
    simp only [eq_self, decide_true, Bool.and_true, Bool.not_true]
    refine W_move rfl rfl ?_
    refine W_gyes rfl rfl ?_
    refine W_move rfl rfl ?_
    refine W_gyes rfl rfl ?_
    refine W_move rfl rfl ?_
    refine W_gyes rfl rfl ?_
    refine W_bin rfl rfl b_neq rfl ?_
    first | refine W_pickt rfl rfl rfl ?_ | refine W_pickf rfl rfl rfl ?_
    refine W_nil ?_
    refine W_condF rfl rfl ?_
    refine W_skip ?_
    refine W_blk ?_
    refine W_region ?_
    refine W_move rfl rfl ?_
    refine W_bin rfl rfl (b_add (m := ((i + 1 : Nat) : Int)) ((i64w (by omega)).trans (by omega))) rfl ?_
    refine W_assign rfl rfl ?_
    refine W_nil ?_
    refine W_again (i + 1, HWA, HWB) ⟨by show i + 1 ≤ l.length; omega, by show i + 1 ≤ 100; omega, hWA, hWB⟩ (by show l.length - (i + 1) < l.length - i; omega) (sub_cons rfl (sub_cons rfl (sub_cons rfl (sub_cons rfl (sub_cons rfl (sub_cons rfl (sub_nil _))))))) rfl (by repeat (first | with_reducible exact HSub.refl _ | refine HSub.cons (by repeat (first | exact Take.here _ | apply Take.next | apply Take.app)) ?_ | refine HSub.app (by repeat (first | with_reducible exact TakeS.here _ | apply TakeS.next | apply TakeS.app)) ?_ | exact HSub.nil _ | exact HSub.refl _ | refine HSub.drop ?_ | refine HSub.dropS ?_))
  · skip
    refine W_exit rfl ?_
    refine W_sr ?_
    refine W_assign rfl rfl ?_
    refine W_nil ?_
    refine W_seq ?_
    refine W_sr ?_
    refine W_assign rfl rfl ?_
    refine W_nil ?_
    refine W_block ?_
    have hids := hWA.ids
    have hlen0 := hids.2.2.2
    obtain ⟨L, hL⟩ : ∃ L : List Tm, L = [] := ⟨_, rfl⟩
    rw [← hL] at hWA hWB hids hlen0
    have hstart : Gone 18446744073709551615 18446744073709551615 L L [] := Gone.start (by rw [hL]; intro t ht; cases ht)
    clear hL
    obtain ⟨tn, htn⟩ : ∃ tn, tn = 0 := ⟨_, rfl⟩
    rw [← htn] at hWA hWB
    clear htn
    refine W_loopC (X := WsS) [(1, _), (3, _), (9, _), (10, _)] (fun (x : WsS) => [(16, x.v), (17, .int .i64 (x.i : Int))]) (fun _ => _) (fun (x : WsS) => HWA ++ (x.HB ++ (x.XO ++ H))) (fun (x : WsS) => x.i ≤ s.length ∧ WheelH bw2 x.nw x.Lb tn x.HB ∧ Gone 18446744073709551615 x.nw L x.Lb x.Ob ∧ x.nw ≤ max 18446744073709551615 fin ∧ OwnS 3 1 x.v x.Ob.length ((x.Ob.map (·.id)).map (Value.int .i64)) x.XO) (fun (x : WsS) => s.length - x.i) ⟨0, 18446744073709551615, L, [], .slice none 0 0, [], HWB⟩ ⟨Nat.zero_le _, hWB, hstart, Nat.le_max_left _ _, OwnS.nil⟩ (sub_cons rfl (sub_cons rfl (sub_cons rfl (sub_cons rfl (sub_nil _))))) (sub_cons rfl (sub_cons rfl (sub_nil _))) rfl (.refl _) ?_
    rintro ⟨k, nw, Lb, Ob, v, XO, HB⟩ ⟨hk, hWb, hG, hnf, hO⟩
    dsimp only at hk hWb hG hnf hO ⊢
    have hOl := hG.len
    simp only [List.cons_append, List.nil_append]
    refine W_seq ?_
    refine W_sr ?_
    refine W_move rfl rfl ?_
    refine W_move rfl rfl ?_
    refine W_len rfl ty23 rfl rfl ?_
    refine W_bin rfl rfl b_lss rfl ?_
    refine W_move rfl rfl ?_
    apply W_and
    iterate 4 exact rfl
    case h1 =>
      intro hg4
      refine W_gyes rfl rfl ?_
      refine W_move rfl rfl ?_
      refine W_gyes rfl rfl ?_
      refine W_bin rfl rfl b_lss rfl ?_
      exact W_met rfl (by repeat (first | exact .refl | refine .cons rfl ?_))
    refine W_nil ?_
    refine W_condPS (p := (k : Int) < (s.length : Int) ∧ (k : Int) < 40) rfl (by first | exact Iff.rfl | simp) (fun q1 => ?_) (fun q1 => ?_)
    · skip
      refine W_skip ?_
      refine W_seq ?_
      refine W_block ?_
      refine W_region ?_
      obtain ⟨x_a, hx_a⟩ : ∃ x, s[k]? = some x := ⟨_, List.getElem?_eq_getElem (by omega)⟩
      obtain ⟨q0, p0, rfl, hc⟩ := hrows.at (i := k) (v := .int .u64 x_a) (by rw [List.getElem?_map, hx_a]; rfl)
      have ha0 := hwfs x_a (List.mem_of_getElem? hx_a)
      have hg_a : (s.getD k 0) = x_a := by rw [List.getD_eq_getElem?_getD, hx_a]; rfl
      obtain ⟨a, rfl⟩ : ∃ a : Nat, x_a = (a : Int) := ⟨x_a.toNat, by omega⟩
      have ha : a ≤ 18446744073709551615 := by omega
      refine W_move rfl rfl ?_
      refine W_move rfl rfl ?_
      refine W_move rfl rfl ?_
      refine W_move rfl rfl ?_
      refine W_indexAddr (j := k) rfl rfl ty23 ty22 rfl (by omega) rfl rfl ?_
      refine W_load (v := .int .u64 ((a : Nat) : Int)) rfl ty22 rfl (by rw [Nat.mul_one]; exact hc.up (by repeat (first | with_reducible exact HSub.refl _ | refine HSub.cons (by repeat (first | exact Take.here _ | apply Take.next | apply Take.app)) ?_ | refine HSub.app (by repeat (first | with_reducible exact TakeS.here _ | apply TakeS.next | apply TakeS.app)) ?_ | exact HSub.nil _ | exact HSub.refl _ | refine HSub.drop ?_ | refine HSub.dropS ?_))) rfl ?_
      refine W_move rfl rfl ?_
      refine W_min2 rfl rfl (m := ((min a fin : Nat) : Int)) (by split <;> omega) rfl ?_
      refine W_call (.cons rfl (.cons rfl .nil)) Tryd.call18 rfl ((To_any (a := min a fin) hT hWb hG.ahead (by omega) (H := HWA ++ (XO ++ H))).hsub (by repeat (first | with_reducible exact HSub.refl _ | refine HSub.cons (by repeat (first | exact Take.here _ | apply Take.next | apply Take.app)) ?_ | refine HSub.app (by repeat (first | with_reducible exact TakeS.here _ | apply TakeS.next | apply TakeS.app)) ?_ | exact HSub.nil _ | exact HSub.refl _ | refine HSub.drop ?_ | refine HSub.dropS ?_))) ?_
      rintro v' H' ⟨O2, Lb2, HB2, XO2, hWb2, hG2, hO2, rfl⟩
      obtain ⟨ad2, cap2, rfl, _, _⟩ := hO2.shape
      have hO2l : (Ob ++ O2).length ≤ L.length := (hG.trans hG2).len
      rw [List.length_append] at hO2l
      refine W_append (news := (O2.map (·.id)).map (Value.int .i64)) (m := O2.length) (HB := XO) (H0 := XO2 ++ (HB2 ++ (HWA ++ H))) rfl rfl ty35 ty3 rfl (by decide) hO (by rw [List.length_map, List.length_map, Nat.mul_one]) (OwnS.holds hO2 (fun p hp => List.mem_append_left _ hp)) (by rw [List.all_eq_true]; intro u hu; obtain ⟨q, _, rfl⟩ := List.mem_map.1 hu; rfl) (by simp only [maxLen]; omega) (by omega) (by repeat (first | with_reducible exact HSub.refl _ | refine HSub.cons (by repeat (first | exact Take.here _ | apply Take.next | apply Take.app)) ?_ | refine HSub.app (by repeat (first | with_reducible exact TakeS.here _ | apply TakeS.next | apply TakeS.app)) ?_ | exact HSub.nil _ | exact HSub.refl _ | refine HSub.drop ?_ | refine HSub.dropS ?_)) rfl (fun v' X' hO' => ?_)
      refine W_assign rfl rfl ?_
      refine W_nil ?_
      refine W_blk ?_
      refine W_region ?_
      refine W_move rfl rfl ?_
      refine W_bin rfl rfl (b_add (m := ((k + 1 : Nat) : Int)) ((i64w (by omega)).trans (by omega))) rfl ?_
      refine W_assign rfl rfl ?_
      refine W_nil ?_
      refine W_again ⟨k + 1, max nw (min a fin), Lb2, Ob ++ O2, v', X', HB2⟩ ⟨by show k + 1 ≤ s.length; omega, hWb2, hG.trans hG2, by show max nw (min a fin) ≤ _; omega, by show OwnS 3 1 v' (Ob ++ O2).length (((Ob ++ O2).map (·.id)).map (Value.int .i64)) X'; rw [List.map_append, List.map_append, List.length_append]; exact hO'⟩ (by show s.length - (k + 1) < s.length - k; omega) (sub_cons rfl (sub_cons rfl (sub_cons rfl (sub_cons rfl (sub_cons rfl (sub_cons rfl (sub_nil _))))))) rfl (by repeat (first | with_reducible exact HSub.refl _ | refine HSub.cons (by repeat (first | exact Take.here _ | apply Take.next | apply Take.app)) ?_ | refine HSub.app (by repeat (first | with_reducible exact TakeS.here _ | apply TakeS.next | apply TakeS.app)) ?_ | exact HSub.nil _ | exact HSub.refl _ | refine HSub.drop ?_ | refine HSub.dropS ?_))
    · skip
      refine W_exit rfl ?_
      refine W_sr ?_
      refine W_move rfl rfl ?_
      refine W_move rfl rfl ?_
      refine W_move rfl rfl ?_
      refine W_call (.cons rfl (.cons rfl .nil)) Tryd.call18 rfl ((To_any (a := fin) hT hWb hG.ahead hfin (H := HWA ++ (XO ++ H))).hsub (by repeat (first | with_reducible exact HSub.refl _ | refine HSub.cons (by repeat (first | exact Take.here _ | apply Take.next | apply Take.app)) ?_ | refine HSub.app (by repeat (first | with_reducible exact TakeS.here _ | apply TakeS.next | apply TakeS.app)) ?_ | exact HSub.nil _ | exact HSub.refl _ | refine HSub.drop ?_ | refine HSub.dropS ?_))) ?_
      rintro v' H' ⟨O2, Lb2, HB2, XO2, hWb2, hG2, hO2, rfl⟩
      obtain ⟨ad2, cap2, rfl, _, _⟩ := hO2.shape
      have hO2l : (Ob ++ O2).length ≤ L.length := (hG.trans hG2).len
      rw [List.length_append] at hO2l
      refine W_append (news := (O2.map (·.id)).map (Value.int .i64)) (m := O2.length) (HB := XO) (H0 := XO2 ++ (HB2 ++ (HWA ++ H))) rfl rfl ty35 ty3 rfl (by decide) hO (by rw [List.length_map, List.length_map, Nat.mul_one]) (OwnS.holds hO2 (fun p hp => List.mem_append_left _ hp)) (by rw [List.all_eq_true]; intro u hu; obtain ⟨q, _, rfl⟩ := List.mem_map.1 hu; rfl) (by simp only [maxLen]; omega) (by omega) (by repeat (first | with_reducible exact HSub.refl _ | refine HSub.cons (by repeat (first | exact Take.here _ | apply Take.next | apply Take.app)) ?_ | refine HSub.app (by repeat (first | with_reducible exact TakeS.here _ | apply TakeS.next | apply TakeS.app)) ?_ | exact HSub.nil _ | exact HSub.refl _ | refine HSub.drop ?_ | refine HSub.dropS ?_)) rfl (fun v' X' hO' => ?_)
      refine W_assign rfl rfl ?_
      refine W_nil ?_
      refine W_sr ?_
      refine W_callp .nil Tryd.call16 rfl hT known_pure ?_
      refine W_move rfl rfl ?_
      refine W_gyes rfl rfl ?_
      refine W_move rfl rfl ?_
      refine W_gyes rfl rfl ?_
      refine W_move rfl rfl ?_
      refine W_gyes rfl rfl ?_
      have hGb := hG.trans hG2
      have hmf : max nw fin = max 18446744073709551615 fin := by have := hG.le; omega
      rw [hmf] at hGb hWb2
      refine W_call (.cons rfl (.cons rfl .nil)) Tryd.call18 rfl ((To_any (a := fin) hT hWA hstart.ahead hfin (H := X' ++ (HB2 ++ H))).hsub (by repeat (first | with_reducible exact HSub.refl _ | refine HSub.cons (by repeat (first | exact Take.here _ | apply Take.next | apply Take.app)) ?_ | refine HSub.app (by repeat (first | with_reducible exact TakeS.here _ | apply TakeS.next | apply TakeS.app)) ?_ | exact HSub.nil _ | exact HSub.refl _ | refine HSub.drop ?_ | refine HSub.dropS ?_))) ?_
      rintro v3 H' ⟨O3, La3, HA3, XO3, hWa3, hGa, hO3, rfl⟩
      obtain ⟨rfl, rfl⟩ := hGa.same hGb
      obtain ⟨ad3, cap3, rfl, _, _⟩ := hO3.shape
      have hOq : OwnS 3 1 v' (Ob ++ O2).length (((Ob ++ O2).map (·.id)).map (Value.int .i64)) X' := by rw [List.map_append, List.map_append, List.length_append]; exact hO'
      obtain ⟨ad4, cap4, rfl, _, _⟩ := hOq.shape
      refine W_gyes rfl rfl ?_
      refine W_move rfl rfl ?_
      refine W_gyes rfl rfl ?_
      have hsl : (((Ob ++ O2).map (·.id)).length : Nat) = (Ob ++ O2).length := List.length_map _
      refine W_callq (.cons (by rw [hsl]; rfl) (.cons (by rw [hsl]; rfl) .nil)) Tryd.call37 rfl (same_q (l := ((Ob ++ O2).map (·.id))) (r := ((Ob ++ O2).map (·.id))) (OwnS.holds hO3 (fun p hp => List.mem_append_left _ hp)) (OwnS.holds hOq (fun p hp => List.mem_append_right _ (List.mem_append_right _ (List.mem_append_left _ hp)))) (by rw [List.length_map, List.length_append]; omega)) ?_
      rw [decide_eq_true rfl]
      first | refine W_pickt rfl rfl rfl ?_ | refine W_pickf rfl rfl rfl ?_
      refine W_move rfl rfl ?_
      refine W_gyes rfl rfl ?_
      refine W_move rfl rfl ?_
      refine W_gyes rfl rfl ?_
      refine W_call (.cons rfl .nil) Tryd.call19 rfl (LCalls.hsub (Now_W (H := XO3 ++ (X' ++ (HB2 ++ H))) hWa3) (by repeat (first | with_reducible exact HSub.refl _ | refine HSub.cons (by repeat (first | exact Take.here _ | apply Take.next | apply Take.app)) ?_ | refine HSub.app (by repeat (first | with_reducible exact TakeS.here _ | apply TakeS.next | apply TakeS.app)) ?_ | exact HSub.nil _ | exact HSub.refl _ | refine HSub.drop ?_ | refine HSub.dropS ?_))) ?_
      rintro v H' ⟨rfl, rfl⟩
      refine W_gyes rfl rfl ?_
      refine W_move rfl rfl ?_
      refine W_gyes rfl rfl ?_
      refine W_call (.cons rfl .nil) Tryd.call19 rfl (LCalls.hsub (Now_W (H := HA3 ++ (XO3 ++ (X' ++ H))) hWb2) (by repeat (first | with_reducible exact HSub.refl _ | refine HSub.cons (by repeat (first | exact Take.here _ | apply Take.next | apply Take.app)) ?_ | refine HSub.app (by repeat (first | with_reducible exact TakeS.here _ | apply TakeS.next | apply TakeS.app)) ?_ | exact HSub.nil _ | exact HSub.refl _ | refine HSub.drop ?_ | refine HSub.dropS ?_))) ?_
      rintro v H' ⟨rfl, rfl⟩
      refine W_gyes rfl rfl ?_
      refine W_bin rfl rfl b_eql rfl ?_
      rw [decide_eq_true rfl]
      first | refine W_pickt rfl rfl rfl ?_ | refine W_pickf rfl rfl rfl ?_
      refine W_move rfl rfl ?_
      refine W_gyes rfl rfl ?_
      refine W_move rfl rfl ?_
      refine W_gyes rfl rfl ?_
      refine W_call (.cons rfl .nil) Tryd.call43 rfl ((Ids_W hWa3 (H := HB2 ++ H)).hsub (by repeat (first | with_reducible exact HSub.refl _ | refine HSub.cons (by repeat (first | exact Take.here _ | apply Take.next | apply Take.app)) ?_ | refine HSub.app (by repeat (first | with_reducible exact TakeS.here _ | apply TakeS.next | apply TakeS.app)) ?_ | exact HSub.nil _ | exact HSub.refl _ | refine HSub.drop ?_ | refine HSub.dropS ?_))) ?_
      rintro v5 H' ⟨XI5, hI5, rfl⟩
      obtain ⟨ad5, cap5, rfl, _, _⟩ := hI5.shape
      refine W_gyes rfl rfl ?_
      refine W_move rfl rfl ?_
      refine W_gyes rfl rfl ?_
      refine W_call (.cons rfl .nil) Tryd.call43 rfl ((Ids_W hWb2 (H := XI5 ++ (HA3 ++ H))).hsub (by repeat (first | with_reducible exact HSub.refl _ | refine HSub.cons (by repeat (first | exact Take.here _ | apply Take.next | apply Take.app)) ?_ | refine HSub.app (by repeat (first | with_reducible exact TakeS.here _ | apply TakeS.next | apply TakeS.app)) ?_ | exact HSub.nil _ | exact HSub.refl _ | refine HSub.drop ?_ | refine HSub.dropS ?_))) ?_
      rintro v6 H' ⟨XI6, hI6, rfl⟩
      obtain ⟨ad6, cap6, rfl, _, _⟩ := hI6.shape
      refine W_gyes rfl rfl ?_
      have hlen6 : (sortI (La3.map (·.id))).length ≤ 4611686018427387904 := by rw [(sortI_perm _).length_eq, List.length_map]; have := hWa3.ids.2.2.2; omega
      have hh5 : Holds w0 (XI6 ++ (HB2 ++ (XI5 ++ (HA3 ++ H)))) ad5 ((sortI (La3.map (·.id))).map (Value.int .i64)) := OwnS.holds hI5 (fun p hp => List.mem_append_right _ (List.mem_append_right _ (List.mem_append_left _ hp)))
      have hh6 : Holds w0 (XI6 ++ (HB2 ++ (XI5 ++ (HA3 ++ H)))) ad6 ((sortI (La3.map (·.id))).map (Value.int .i64)) := OwnS.holds hI6 (fun p hp => List.mem_append_left _ hp)
      have hsm := same_q (c1 := cap5) (c2 := cap6) hh5 hh6 hlen6
      refine W_callq (.cons rfl (.cons rfl .nil)) Tryd.call37 rfl hsm ?_
      rw [decide_eq_true rfl]
      first | refine W_pickt rfl rfl rfl ?_ | refine W_pickf rfl rfl rfl ?_
      refine W_assign rfl rfl ?_
      refine W_nil ?_
      refine W_ret1m (H2 := H) Tryd.results10 rfl (.nil _) (by repeat (first | with_reducible exact HSub.refl _ | refine HSub.cons (by repeat (first | exact Take.here _ | apply Take.next | apply Take.app)) ?_ | refine HSub.app (by repeat (first | with_reducible exact TakeS.here _ | apply TakeS.next | apply TakeS.app)) ?_ | exact HSub.nil _ | exact HSub.refl _ | refine HSub.drop ?_ | refine HSub.dropS ?_)) ?_
      exact ⟨rfl, rfl⟩
theorem wheelSteps_pure {now fin : Nat} {l s : List Int} {ad as_ : Option Addr} {cap caps : Nat} (hwf : ∀ b ∈ l, 0 ≤ b ∧ b ≤ 18446744073709551615) (hwfs : ∀ b ∈ s, 0 ≤ b ∧ b ≤ 18446744073709551615) (hcap : l.length ≤ 9223372036854775807) (hcaps : s.length ≤ 9223372036854775807) (hfin : fin ≤ 18446744073709551615) (hnow : now ≤ 18446744073709551615) : Pure Tryd.prog (fun w => Tab w ∧ InRow w ad (l.map (Value.int .u64)) ∧ InRow w as_ (s.map (Value.int .u64))) 10 [.int .u64 ((now : Nat) : Int), .int .u64 ((fin : Nat) : Int), .slice ad l.length cap, .slice as_ s.length caps] (.bool true) := by
  rcases Nat.lt_or_eq_of_le hnow with h | rfl
  · exact wheelSteps_L hwf hwfs hcap hcaps hfin h
  · exact wheelSteps_M (now := 0) hwf hwfs hcap hcaps hfin
end Go.Proofs.YtknbohnoiigioaaDoor
