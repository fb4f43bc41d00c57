/-
  Own work: contracts of functions that the statement reaches, and plain facts on what they compute; each theorem says its conditions.
-/
import Derived.Test.YtknbohnoiigioaaDoorW32toW34
set_option linter.all false
set_option linter.unusedSimpArgs false
set_option linter.unusedVariables false
namespace Go.Proofs.YtknbohnoiigioaaDoor
open Go Go.Sl
attribute [local irreducible] W
/-- the timers that a law puts: numbers from 0 on -/
def putsT (now : Nat) (l : List Int) : Nat → List Tm
  | 0 => []
  | i + 1 => putsT now l i ++ [tmOf now (l.getD i 0).toNat i (i : Int)]
theorem puts_len (now : Nat) (l : List Int) : ∀ i, (putsT now l i).length = i
  | 0 => rfl
  | i + 1 => by
    show (putsT now l i ++ _).length = _
    rw [List.length_append, puts_len now l i]; rfl
theorem puts_ids (now : Nat) (l : List Int) : ∀ i, (putsT now l i).map (·.id) = (List.range i).map (fun j : Nat => (j : Int))
  | 0 => rfl
  | i + 1 => by
    show (putsT now l i ++ _).map _ = _
    rw [List.map_append, puts_ids now l i, List.range_succ, List.map_append]; rfl
theorem puts_new (now : Nat) (l : List Int) (i : Nat) : (i : Int) ∉ (putsT now l i).map (·.id) := by
  rw [puts_ids, List.mem_map]
  rintro ⟨j, hj, e⟩
  have := List.mem_range.1 hj
  omega
theorem dueW {bw now turn : Nat} {L : List Tm} {HW : Heap} (h : WheelH bw now L turn HW) {t : Tm} (ht : t ∈ L) : t.s.due ≤ 18446744073709551615 := by
  cases h with
  | mk h =>
    obtain ⟨num, _, e, _⟩ := h.time t ht
    rw [e]; exact tickT_le _ _
set_option maxHeartbeats 4000000 in
theorem wheelNext_L {now : Nat} {l : List Int} {ad : Option Addr} {cap : Nat} (hwf : ∀ b ∈ l, 0 ≤ b ∧ b ≤ 18446744073709551615) (hcap : l.length ≤ 9223372036854775807) (hnow : now < 18446744073709551615) : Pure Tryd.prog (fun w => Tab w ∧ InRow w ad (l.map (Value.int .u64))) 3 [.int .u64 ((now : Nat) : Int), .slice ad l.length cap] (.bool true) := by
  intro w0 H hT
  have hrow : Holds w0 H ad (l.map (Value.int .u64)) := Holds.old hT.2
  replace hT := hT.1
  refine L_enter Tryd.func3 rfl Tryd.ntmps3 rfl rfl ?_
  refine W_sr ?_
  refine W_assign rfl rfl ?_
  refine W_nil ?_
  refine W_sr ?_
  refine W_move rfl rfl ?_
  refine W_call (.cons rfl .nil) Tryd.call13 rfl ((New_W (now := now) (H := H)).hsub (by repeat (first | with_reducible exact HSub.refl _ | refine HSub.cons (by repeat (first | exact Take.here _ | apply Take.next | apply Take.app)) ?_ | refine HSub.app (by repeat (first | with_reducible exact TakeS.here _ | apply TakeS.next | apply TakeS.app)) ?_ | exact HSub.nil _ | exact HSub.refl _ | refine HSub.drop ?_ | refine HSub.dropS ?_))) ?_
  rintro v H' ⟨bw1, HW1, rfl, hW1, rfl⟩
  refine W_assign rfl rfl ?_
  refine W_nil ?_
  refine W_seq ?_
  refine W_sr ?_
  refine W_assign rfl rfl ?_
  refine W_nil ?_
  refine W_block ?_
  refine W_loopC (X := (Nat × Heap)) [(0, _), (1, _), (5, _)] (fun (x : (Nat × Heap)) => [(6, .int .i64 (x.1 : Int))]) (fun _ => _) (fun (x : (Nat × Heap)) => x.2 ++ H) (fun (x : (Nat × Heap)) => x.1 ≤ l.length ∧ x.1 ≤ 100 ∧ WheelH bw1 now (putsT now l x.1) x.1 x.2) (fun (x : (Nat × Heap)) => l.length - x.1) (0, HW1) ⟨Nat.zero_le _, Nat.zero_le _, hW1⟩ (sub_cons rfl (sub_cons rfl (sub_cons rfl (sub_nil _)))) (sub_cons rfl (sub_nil _)) rfl (.refl _) ?_
  rintro ⟨i, HWi⟩ ⟨hi, hi2, hWi⟩
  dsimp only at hi hi2 hWi ⊢
  simp only [List.cons_append, List.nil_append]
  refine W_seq ?_
  refine W_sr ?_
  refine W_move rfl rfl ?_
  refine W_move rfl rfl ?_
  refine W_len rfl ty23 rfl rfl ?_
  refine W_bin rfl rfl b_lss rfl ?_
  refine W_move rfl rfl ?_
  apply W_and
  iterate 4 exact rfl
  case h1 =>
    intro hg4
    refine W_gyes rfl rfl ?_
    refine W_move rfl rfl ?_
    refine W_gyes rfl rfl ?_
    refine W_bin rfl rfl b_lss rfl ?_
    exact W_met rfl (by repeat (first | exact .refl | refine .cons rfl ?_))
  refine W_nil ?_
  refine W_condPS (p := (i : Int) < (l.length : Int) ∧ (i : Int) < 100) rfl (by first | exact Iff.rfl | simp) (fun q0 => ?_) (fun q0 => ?_)
  · skip
    refine W_skip ?_
    refine W_seq ?_
    refine W_block ?_
    refine W_region ?_
    obtain ⟨x_a, hx_a⟩ : ∃ x, l[i]? = some x := ⟨_, List.getElem?_eq_getElem (by omega)⟩
    obtain ⟨q0, p0, rfl, hc⟩ := hrow.at (i := i) (v := .int .u64 x_a) (by rw [List.getElem?_map, hx_a]; rfl)
    have ha0 := hwf x_a (List.mem_of_getElem? hx_a)
    have hg_a : (l.getD i 0) = x_a := by rw [List.getD_eq_getElem?_getD, hx_a]; rfl
    obtain ⟨a, rfl⟩ : ∃ a : Nat, x_a = (a : Int) := ⟨x_a.toNat, by omega⟩
    have ha : a ≤ 18446744073709551615 := by omega
    refine W_move rfl rfl ?_
    refine W_move rfl rfl ?_
    refine W_move rfl rfl ?_
    refine W_move rfl rfl ?_
    refine W_indexAddr (j := i) rfl rfl ty23 ty22 rfl (by omega) rfl rfl ?_
    refine W_load (v := .int .u64 ((a : Nat) : Int)) rfl ty22 rfl (by rw [Nat.mul_one]; exact hc.up (by repeat (first | with_reducible exact HSub.refl _ | refine HSub.cons (by repeat (first | exact Take.here _ | apply Take.next | apply Take.app)) ?_ | refine HSub.app (by repeat (first | with_reducible exact TakeS.here _ | apply TakeS.next | apply TakeS.app)) ?_ | exact HSub.nil _ | exact HSub.refl _ | refine HSub.drop ?_ | refine HSub.dropS ?_))) rfl ?_
    refine W_call (.cons rfl (.cons rfl (.cons rfl .nil))) Tryd.call14 rfl ((Put_L (id := (i : Int)) (a := a) hWi hnow ha (by omega) (puts_new now l i) (by omega)).hsub (.refl _)) ?_
    rintro v H' ⟨HW', hW', rfl, rfl⟩
    refine W_nil ?_
    refine W_blk ?_
    refine W_region ?_
    refine W_move rfl rfl ?_
    refine W_bin rfl rfl (b_add (m := ((i + 1 : Nat) : Int)) ((i64w (by omega)).trans (by omega))) rfl ?_
    refine W_assign rfl rfl ?_
    refine W_nil ?_
    refine W_again (i + 1, HW') ⟨by show i + 1 ≤ l.length; omega, by show i + 1 ≤ 100; omega, by show WheelH bw1 now (putsT now l (i + 1)) (i + 1) HW'; rw [show putsT now l (i + 1) = putsT now l i ++ [tmOf now a i (i : Int)] from by show _ ++ [tmOf now (l.getD i 0).toNat i (i : Int)] = _; rw [hg_a]; rfl]; exact hW'⟩ (by show l.length - (i + 1) < l.length - i; omega) (sub_cons rfl (sub_cons rfl (sub_cons rfl (sub_cons rfl (sub_nil _))))) rfl (.refl _)
  · skip
    refine W_exit rfl ?_
    refine W_sr ?_
    refine W_move rfl rfl ?_
    refine W_call (.cons rfl .nil) Tryd.call15 rfl (Next_W hT hWi (by omega)) ?_
    rintro v H' ⟨rfl, rfl⟩
    rcases hat : leastT (putsT now l i) with _ | at_
    · skip
      have hl0 : (putsT now l i) = [] := leastT_none.1 hat
      have hi0 : i = 0 := by rw [← puts_len now l i, hl0]; rfl
      refine W_move rfl rfl ?_
      refine W_extract rfl rfl rfl ?_
      refine W_extract rfl rfl rfl ?_
      refine W_assign rfl rfl ?_
      refine W_assign rfl rfl ?_
      refine W_nil ?_
      refine W_seq ?_
      refine W_sr ?_
      refine W_move rfl rfl ?_
      refine W_not rfl rfl ?_
      refine W_nil ?_
      refine W_condT rfl rfl ?_
      refine W_sr ?_
      refine W_callp .nil Tryd.call16 rfl hT known_pure ?_
      refine W_move rfl rfl ?_
      refine W_gyes rfl rfl ?_
      refine W_move rfl rfl ?_
      refine W_gyes rfl rfl ?_
      refine W_callq (.cons rfl .nil) Tryd.call17 rfl (Len_W hWi) ?_
      refine W_gyes rfl rfl ?_
      refine W_bin rfl rfl b_eql rfl ?_
      rw [hl0, decide_eq_true (by rfl)]
      first | refine W_pickt rfl rfl rfl ?_ | refine W_pickf rfl rfl rfl ?_
      refine W_move rfl rfl ?_
      refine W_gyes rfl rfl ?_
      refine W_move rfl rfl ?_
      refine W_gyes rfl rfl ?_
      refine W_len rfl ty23 rfl rfl ?_
      refine W_gyes rfl rfl ?_
      refine W_bin rfl rfl b_eql rfl ?_
      rw [decide_eq_true (by omega)]
      refine W_gyes rfl rfl ?_
      refine W_move rfl rfl ?_
      refine W_gno rfl rfl rfl ?_
      refine W_gno rfl rfl rfl ?_
      refine W_gyes rfl rfl ?_
      first | refine W_pickt rfl rfl rfl ?_ | refine W_pickf rfl rfl rfl ?_
      first | refine W_pickt rfl rfl rfl ?_ | refine W_pickf rfl rfl rfl ?_
      refine W_assign rfl rfl ?_
      refine W_nil ?_
      refine W_ret1m (H2 := H) Tryd.results3 rfl (.nil _) (by repeat (first | with_reducible exact HSub.refl _ | refine HSub.cons (by repeat (first | exact Take.here _ | apply Take.next | apply Take.app)) ?_ | refine HSub.app (by repeat (first | with_reducible exact TakeS.here _ | apply TakeS.next | apply TakeS.app)) ?_ | exact HSub.nil _ | exact HSub.refl _ | refine HSub.drop ?_ | refine HSub.dropS ?_)) ?_
      exact ⟨rfl, rfl⟩
    · skip
      have hids := hWi.ids
      have hlat := hWi.later hnow
      obtain ⟨⟨t0, ht0, e0⟩, hleast⟩ := leastT_is hat
      have hnat : now < at_ := by have := hlat t0 ht0; omega
      have hatm : at_ ≤ 18446744073709551615 := by rw [← e0]; exact dueW hWi ht0
      refine W_move rfl rfl ?_
      refine W_extract rfl rfl rfl ?_
      refine W_extract rfl rfl rfl ?_
      refine W_assign rfl rfl ?_
      refine W_assign rfl rfl ?_
      refine W_nil ?_
      refine W_seq ?_
      refine W_sr ?_
      refine W_move rfl rfl ?_
      refine W_not rfl rfl ?_
      refine W_nil ?_
      refine W_condF rfl rfl ?_
      refine W_skip ?_
      refine W_sr ?_
      refine W_callp .nil Tryd.call16 rfl hT known_pure ?_
      refine W_move rfl rfl ?_
      refine W_gyes rfl rfl ?_
      refine W_move rfl rfl ?_
      refine W_gyes rfl rfl ?_
      refine W_move rfl rfl ?_
      refine W_gyes rfl rfl ?_
      refine W_bin rfl rfl b_gtr rfl ?_
      rw [decide_eq_true (by simp; omega)]
      first | refine W_pickt rfl rfl rfl ?_ | refine W_pickf rfl rfl rfl ?_
      refine W_move rfl rfl ?_
      refine W_gyes rfl rfl ?_
      refine W_move rfl rfl ?_
      refine W_gyes rfl rfl ?_
      refine W_move rfl rfl ?_
      refine W_gyes rfl rfl ?_
      refine W_bin rfl rfl (b_sub (m := ((at_ - 1 : Nat) : Int)) (by rw [u64w (by simp; omega)]; simp; omega)) rfl ?_
      refine W_gyes rfl rfl ?_
      by_cases hc1 : at_ - 1 ≤ now
      · skip
        obtain ⟨row, HT, rfl, hrl, hr0, _⟩ := hWi.now
        refine W_callq (.cons rfl (.cons rfl .nil)) Tryd.call18 rfl (To_stay (now := now) (row := row) (tot := 523) (by repeat (first | exact List.mem_cons_self | apply List.mem_cons_of_mem | apply List.mem_append_right)) hr0 hc1) ?_
        refine W_gyes rfl rfl ?_
        refine W_len rfl ty35 rfl rfl ?_
        refine W_gyes rfl rfl ?_
        refine W_bin rfl rfl b_eql rfl ?_
        first | refine W_pickt rfl rfl rfl ?_ | refine W_pickf rfl rfl rfl ?_
        refine W_move rfl rfl ?_
        refine W_gyes rfl rfl ?_
        refine W_move rfl rfl ?_
        refine W_gyes rfl rfl ?_
        refine W_move rfl rfl ?_
        refine W_gyes rfl rfl ?_
        refine W_call (.cons rfl (.cons rfl .nil)) Tryd.call18 rfl ((To_L (a := at_) hWi (by omega) hatm hT).hsub (by repeat (first | with_reducible exact HSub.refl _ | refine HSub.cons (by repeat (first | exact Take.here _ | apply Take.next | apply Take.app)) ?_ | refine HSub.app (by repeat (first | with_reducible exact TakeS.here _ | apply TakeS.next | apply TakeS.app)) ?_ | exact HSub.nil _ | exact HSub.refl _ | refine HSub.drop ?_ | refine HSub.dropS ?_))) ?_
        rintro v H' ⟨O2, Li2, HWm, XO2, hWm, hG2, hO2, rfl⟩
        have hpos : 0 < O2.length := List.length_pos_of_mem (hG2.perm.mem_iff.2 (List.mem_filter.2 ⟨ht0, decide_eq_true (by rw [e0]; exact Nat.le_refl _)⟩))
        obtain ⟨ad2, cap2, rfl, _, _⟩ := hO2.shape
        refine W_gyes rfl rfl ?_
        refine W_len rfl ty35 rfl rfl ?_
        refine W_gyes rfl rfl ?_
        refine W_bin rfl rfl b_gtr rfl ?_
        rw [decide_eq_true (by first | omega | (simp; omega))]
        first | refine W_pickt rfl rfl rfl ?_ | refine W_pickf rfl rfl rfl ?_
        refine W_assign rfl rfl ?_
        refine W_nil ?_
        refine W_ret1m (H2 := H) Tryd.results3 rfl (.nil _) (by repeat (first | with_reducible exact HSub.refl _ | refine HSub.cons (by repeat (first | exact Take.here _ | apply Take.next | apply Take.app)) ?_ | refine HSub.app (by repeat (first | with_reducible exact TakeS.here _ | apply TakeS.next | apply TakeS.app)) ?_ | exact HSub.nil _ | exact HSub.refl _ | refine HSub.drop ?_ | refine HSub.dropS ?_)) ?_
        exact ⟨rfl, rfl⟩
      · skip
        refine W_call (.cons rfl (.cons rfl .nil)) Tryd.call18 rfl (To_L (a := at_ - 1) hWi (by omega) (by omega) hT) ?_
        rintro v H' ⟨O1, Li1, HWn, XO1, hWn, hG1, hO1, rfl⟩
        obtain rfl : O1 = [] := by
          have hp := hG1.perm
          rw [List.filter_eq_nil_iff.2 (fun t ht => by have := hleast t ht; simp; omega)] at hp
          exact hp.eq_nil
        obtain ⟨ad1, cap1, rfl, _, _⟩ := hO1.shape
        refine W_gyes rfl rfl ?_
        refine W_len rfl ty35 rfl rfl ?_
        refine W_gyes rfl rfl ?_
        refine W_bin rfl rfl b_eql rfl ?_
        first | refine W_pickt rfl rfl rfl ?_ | refine W_pickf rfl rfl rfl ?_
        refine W_move rfl rfl ?_
        refine W_gyes rfl rfl ?_
        refine W_move rfl rfl ?_
        refine W_gyes rfl rfl ?_
        refine W_move rfl rfl ?_
        refine W_gyes rfl rfl ?_
        refine W_call (.cons rfl (.cons rfl .nil)) Tryd.call18 rfl ((To_L (a := at_) hWn (by omega) hatm hT).hsub (by repeat (first | with_reducible exact HSub.refl _ | refine HSub.cons (by repeat (first | exact Take.here _ | apply Take.next | apply Take.app)) ?_ | refine HSub.app (by repeat (first | with_reducible exact TakeS.here _ | apply TakeS.next | apply TakeS.app)) ?_ | exact HSub.nil _ | exact HSub.refl _ | refine HSub.drop ?_ | refine HSub.dropS ?_))) ?_
        rintro v H' ⟨O2, Li2, HWm, XO2, hWm, hG2, hO2, rfl⟩
        have hpos : 0 < O2.length := List.length_pos_of_mem (hG2.perm.mem_iff.2 (List.mem_filter.2 ⟨by rw [hG1.left]; exact List.mem_filter.2 ⟨ht0, decide_eq_true (by omega)⟩, decide_eq_true (by rw [e0]; exact Nat.le_refl _)⟩))
        obtain ⟨ad2, cap2, rfl, _, _⟩ := hO2.shape
        refine W_gyes rfl rfl ?_
        refine W_len rfl ty35 rfl rfl ?_
        refine W_gyes rfl rfl ?_
        refine W_bin rfl rfl b_gtr rfl ?_
        rw [decide_eq_true (by first | omega | (simp; omega))]
        first | refine W_pickt rfl rfl rfl ?_ | refine W_pickf rfl rfl rfl ?_
        refine W_assign rfl rfl ?_
        refine W_nil ?_
        refine W_ret1m (H2 := H) Tryd.results3 rfl (.nil _) (by repeat (first | with_reducible exact HSub.refl _ | refine HSub.cons (by repeat (first | exact Take.here _ | apply Take.next | apply Take.app)) ?_ | refine HSub.app (by repeat (first | with_reducible exact TakeS.here _ | apply TakeS.next | apply TakeS.app)) ?_ | exact HSub.nil _ | exact HSub.refl _ | refine HSub.drop ?_ | refine HSub.dropS ?_)) ?_
        exact ⟨rfl, rfl⟩
set_option maxHeartbeats 4000000 in
theorem wheelNext_M {now : Nat} {l : List Int} {ad : Option Addr} {cap : Nat} (hwf : ∀ b ∈ l, 0 ≤ b ∧ b ≤ 18446744073709551615) (hcap : l.length ≤ 9223372036854775807) : Pure Tryd.prog (fun w => Tab w ∧ InRow w ad (l.map (Value.int .u64))) 3 [.int .u64 ((18446744073709551615 : Nat) : Int), .slice ad l.length cap] (.bool true) := by
  intro w0 H hT
  have hrow : Holds w0 H ad (l.map (Value.int .u64)) := Holds.old hT.2
  replace hT := hT.1
  refine L_enter Tryd.func3 rfl Tryd.ntmps3 rfl rfl ?_
  refine W_sr ?_
  refine W_assign rfl rfl ?_
  refine W_nil ?_
  refine W_sr ?_
  refine W_move rfl rfl ?_
  refine W_call (.cons rfl .nil) Tryd.call13 rfl ((New_W (now := 18446744073709551615) (H := H)).hsub (by repeat (first | with_reducible exact HSub.refl _ | refine HSub.cons (by repeat (first | exact Take.here _ | apply Take.next | apply Take.app)) ?_ | refine HSub.app (by repeat (first | with_reducible exact TakeS.here _ | apply TakeS.next | apply TakeS.app)) ?_ | exact HSub.nil _ | exact HSub.refl _ | refine HSub.drop ?_ | refine HSub.dropS ?_))) ?_
  rintro v H' ⟨bw1, HW1, rfl, hW1, rfl⟩
  refine W_assign rfl rfl ?_
  refine W_nil ?_
  refine W_seq ?_
  refine W_sr ?_
  refine W_assign rfl rfl ?_
  refine W_nil ?_
  refine W_block ?_
  refine W_loopC (X := (Nat × Heap)) [(0, _), (1, _), (5, _)] (fun (x : (Nat × Heap)) => [(6, .int .i64 (x.1 : Int))]) (fun _ => _) (fun (x : (Nat × Heap)) => x.2 ++ H) (fun (x : (Nat × Heap)) => x.1 ≤ l.length ∧ x.1 ≤ 100 ∧ WheelH bw1 18446744073709551615 ([]) 0 x.2) (fun (x : (Nat × Heap)) => l.length - x.1) (0, HW1) ⟨Nat.zero_le _, Nat.zero_le _, hW1⟩ (sub_cons rfl (sub_cons rfl (sub_cons rfl (sub_nil _)))) (sub_cons rfl (sub_nil _)) rfl (.refl _) ?_
  rintro ⟨i, HWi⟩ ⟨hi, hi2, hWi⟩
  dsimp only at hi hi2 hWi ⊢
  simp only [List.cons_append, List.nil_append]
  refine W_seq ?_
  refine W_sr ?_
  refine W_move rfl rfl ?_
  refine W_move rfl rfl ?_
  refine W_len rfl ty23 rfl rfl ?_
  refine W_bin rfl rfl b_lss rfl ?_
  refine W_move rfl rfl ?_
  apply W_and
  iterate 4 exact rfl
  case h1 =>
    intro hg4
    refine W_gyes rfl rfl ?_
    refine W_move rfl rfl ?_
    refine W_gyes rfl rfl ?_
    refine W_bin rfl rfl b_lss rfl ?_
    exact W_met rfl (by repeat (first | exact .refl | refine .cons rfl ?_))
  refine W_nil ?_
  refine W_condPS (p := (i : Int) < (l.length : Int) ∧ (i : Int) < 100) rfl (by first | exact Iff.rfl | simp) (fun q0 => ?_) (fun q0 => ?_)
  · skip
    refine W_skip ?_
    refine W_seq ?_
    refine W_block ?_
    refine W_region ?_
    obtain ⟨x_a, hx_a⟩ : ∃ x, l[i]? = some x := ⟨_, List.getElem?_eq_getElem (by omega)⟩
    obtain ⟨q0, p0, rfl, hc⟩ := hrow.at (i := i) (v := .int .u64 x_a) (by rw [List.getElem?_map, hx_a]; rfl)
    have ha0 := hwf x_a (List.mem_of_getElem? hx_a)
    have hg_a : (l.getD i 0) = x_a := by rw [List.getD_eq_getElem?_getD, hx_a]; rfl
    obtain ⟨a, rfl⟩ : ∃ a : Nat, x_a = (a : Int) := ⟨x_a.toNat, by omega⟩
    have ha : a ≤ 18446744073709551615 := by omega
    refine W_move rfl rfl ?_
    refine W_move rfl rfl ?_
    refine W_move rfl rfl ?_
    refine W_move rfl rfl ?_
    refine W_indexAddr (j := i) rfl rfl ty23 ty22 rfl (by omega) rfl rfl ?_
    refine W_load (v := .int .u64 ((a : Nat) : Int)) rfl ty22 rfl (by rw [Nat.mul_one]; exact hc.up (by repeat (first | with_reducible exact HSub.refl _ | refine HSub.cons (by repeat (first | exact Take.here _ | apply Take.next | apply Take.app)) ?_ | refine HSub.app (by repeat (first | with_reducible exact TakeS.here _ | apply TakeS.next | apply TakeS.app)) ?_ | exact HSub.nil _ | exact HSub.refl _ | refine HSub.drop ?_ | refine HSub.dropS ?_))) rfl ?_
    refine W_call (.cons rfl (.cons rfl (.cons rfl .nil))) Tryd.call14 rfl ((Put_late (id := (i : Int)) (a := a) hWi (by omega) ha (by simp)).hsub (.refl _)) ?_
    rintro v H' ⟨rfl, rfl⟩
    refine W_nil ?_
    refine W_blk ?_
    refine W_region ?_
    refine W_move rfl rfl ?_
    refine W_bin rfl rfl (b_add (m := ((i + 1 : Nat) : Int)) ((i64w (by omega)).trans (by omega))) rfl ?_
    refine W_assign rfl rfl ?_
    refine W_nil ?_
    refine W_again (i + 1, HWi) ⟨by show i + 1 ≤ l.length; omega, by show i + 1 ≤ 100; omega, hWi⟩ (by show l.length - (i + 1) < l.length - i; omega) (sub_cons rfl (sub_cons rfl (sub_cons rfl (sub_cons rfl (sub_nil _))))) rfl (.refl _)
  · skip
    refine W_exit rfl ?_
    refine W_sr ?_
    refine W_move rfl rfl ?_
    refine W_call (.cons rfl .nil) Tryd.call15 rfl (Next_W hT hWi (by omega)) ?_
    rintro v H' ⟨rfl, rfl⟩
    skip
    refine W_move rfl rfl ?_
    refine W_extract rfl rfl rfl ?_
    refine W_extract rfl rfl rfl ?_
    refine W_assign rfl rfl ?_
    refine W_assign rfl rfl ?_
    refine W_nil ?_
    refine W_seq ?_
    refine W_sr ?_
    refine W_move rfl rfl ?_
    refine W_not rfl rfl ?_
    refine W_nil ?_
    refine W_condT rfl rfl ?_
    refine W_sr ?_
    refine W_callp .nil Tryd.call16 rfl hT known_pure ?_
    refine W_move rfl rfl ?_
    refine W_gyes rfl rfl ?_
    refine W_move rfl rfl ?_
    refine W_gyes rfl rfl ?_
    refine W_callq (.cons rfl .nil) Tryd.call17 rfl (Len_W hWi) ?_
    refine W_gyes rfl rfl ?_
    refine W_bin rfl rfl b_eql rfl ?_
    first | refine W_pickt rfl rfl rfl ?_ | refine W_pickf rfl rfl rfl ?_
    refine W_move rfl rfl ?_
    refine W_gyes rfl rfl ?_
    refine W_move rfl rfl ?_
    refine W_gyes rfl rfl ?_
    refine W_len rfl ty23 rfl rfl ?_
    refine W_gyes rfl rfl ?_
    refine W_bin rfl rfl b_eql rfl ?_
    by_cases hl0 : (l.length : Int) = 0
    · skip
      rw [decide_eq_true hl0]
      refine W_gyes rfl rfl ?_
      refine W_move rfl rfl ?_
      refine W_gno rfl rfl rfl ?_
      refine W_gno rfl rfl rfl ?_
      refine W_gyes rfl rfl ?_
      first | refine W_pickt rfl rfl rfl ?_ | refine W_pickf rfl rfl rfl ?_
      first | refine W_pickt rfl rfl rfl ?_ | refine W_pickf rfl rfl rfl ?_
      refine W_assign rfl rfl ?_
      refine W_nil ?_
      refine W_ret1m (H2 := H) Tryd.results3 rfl (.nil _) (by repeat (first | with_reducible exact HSub.refl _ | refine HSub.cons (by repeat (first | exact Take.here _ | apply Take.next | apply Take.app)) ?_ | refine HSub.app (by repeat (first | with_reducible exact TakeS.here _ | apply TakeS.next | apply TakeS.app)) ?_ | exact HSub.nil _ | exact HSub.refl _ | refine HSub.drop ?_ | refine HSub.dropS ?_)) ?_
      exact ⟨rfl, rfl⟩
    · skip
      rw [decide_eq_false hl0]
      refine W_gyes rfl rfl ?_
      refine W_move rfl rfl ?_
      refine W_gyes rfl rfl ?_
      refine W_move rfl rfl ?_
      refine W_gyes rfl rfl ?_
      refine W_bin rfl rfl b_eql rfl ?_
      refine W_gyes rfl rfl ?_
      first | refine W_pickt rfl rfl rfl ?_ | refine W_pickf rfl rfl rfl ?_
      first | refine W_pickt rfl rfl rfl ?_ | refine W_pickf rfl rfl rfl ?_
      refine W_assign rfl rfl ?_
      refine W_nil ?_
      refine W_ret1m (H2 := H) Tryd.results3 rfl (.nil _) (by repeat (first | with_reducible exact HSub.refl _ | refine HSub.cons (by repeat (first | exact Take.here _ | apply Take.next | apply Take.app)) ?_ | refine HSub.app (by repeat (first | with_reducible exact TakeS.here _ | apply TakeS.next | apply TakeS.app)) ?_ | exact HSub.nil _ | exact HSub.refl _ | refine HSub.drop ?_ | refine HSub.dropS ?_)) ?_
      exact ⟨rfl, rfl⟩
theorem wheelNext_pure {now : Nat} {l : List Int} {ad : Option Addr} {cap : Nat} (hwf : ∀ b ∈ l, 0 ≤ b ∧ b ≤ 18446744073709551615) (hcap : l.length ≤ 9223372036854775807) (hnow : now ≤ 18446744073709551615) : Pure Tryd.prog (fun w => Tab w ∧ InRow w ad (l.map (Value.int .u64))) 3 [.int .u64 ((now : Nat) : Int), .slice ad l.length cap] (.bool true) := by
  rcases Nat.lt_or_eq_of_le hnow with h | rfl
  · exact wheelNext_L hwf hcap h
  · exact wheelNext_M (now := 0) hwf hcap
end Go.Proofs.YtknbohnoiigioaaDoor
