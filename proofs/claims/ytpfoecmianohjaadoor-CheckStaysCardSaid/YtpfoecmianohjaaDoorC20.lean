/-
  Own work: contracts of functions that the statement reaches, and plain facts on what they compute; each theorem says its conditions.
-/
import Derived.Test.YtpfoecmianohjaaDoorC19
set_option linter.all false
set_option linter.unusedSimpArgs false
set_option linter.unusedVariables false
namespace Go.Proofs.YtpfoecmianohjaaDoor
open Go Go.Sl
attribute [local irreducible] W
set_option maxHeartbeats 4000000 in
theorem checkStays_pure {l : List Ins} {ad aw : Option Addr} {cap capw : Nat} {s : Bool} {ws : List Bool} (hl : InsOk l) (hcap : l.length ≤ cap) : Pure Tryd.prog (fun w => Tab w ∧ InRow w ad (insRow l) ∧ InRow w aw (bools ws)) 13 [.slice ad l.length cap, .bool s, .slice aw ws.length capw] (.bool true) := by
  intro w0 H hT
  have hTT := hT
  clear hT
  obtain ⟨hT, hrow0, hways0⟩ := hTT
  have hways : Holds w0 H aw (bools ws) := Holds.old hways0
  obtain ⟨c, hc⟩ : ∃ c, c = l.take 64 := ⟨_, rfl⟩
  have hce : l.take ((64 : Int)).toNat = c := hc.symm
  have hcl : c.length = min 64 l.length := by rw [hc, List.length_take]
  have hcok : InsOk c := by rw [hc]; exact fun x hx => hl x (List.mem_of_mem_take hx)
  have hrow : Holds w0 H ad (insRow l) := Holds.old hrow0
  refine L_enter Tryd.func13 rfl Tryd.ntmps13 rfl rfl ?_
  refine W_sr ?_
  refine W_assign rfl rfl ?_
  refine W_nil ?_
  refine W_sr ?_
  refine W_move rfl rfl ?_
  refine W_call (.cons rfl (.cons rfl .nil)) Tryd.call26 rfl (code_L l 64 (by omega) (hrow.up (by repeat (first | exact HSub.refl _ | refine HSub.cons (by repeat (first | exact Take.here _ | apply Take.next | apply Take.app)) ?_ | refine HSub.app (by repeat (first | exact TakeS.here _ | apply TakeS.next | apply TakeS.app)) ?_ | refine HSub.drop ?_ | refine HSub.dropS ?_ | exact HSub.nil _))) hT) ?_
  rintro v H' ⟨HBc, hOc, rfl⟩
  rw [show l.take ((64 : Int)).toNat = c from hce] at hOc
  obtain ⟨adc, capc, rfl, hcc, hcm, _⟩ := Holds.of_own (w0 := w0) (H := HBc ++ H) hOc (fun p hp => List.mem_append_left _ hp)
  have hrc : ∀ {H'}, HSub H' (HBc ++ H) → Holds w0 H' adc (insRow c) := fun hs => by
    obtain ⟨ad', cap', he, _, _, hh⟩ := Holds.of_own (w0 := w0) (H := HBc ++ H) hOc (fun p hp => List.mem_append_left _ hp)
    cases he; exact hh.up hs
  refine W_move rfl rfl ?_
  refine W_build ty51 pl51 (.cons rfl rfl rfl rfl rfl (.cons rfl rfl rfl rfl rfl .nil)) rfl (by simp only [fillL, spliceL, Value.cells, List.take_zero, List.take_succ_cons, List.take_nil, List.drop_zero, List.drop_succ_cons, List.drop_nil, List.nil_append, List.cons_append, List.append_nil, List.length_cons, List.length_nil, Nat.zero_add, Nat.reduceAdd, List.toList_toArray]; rfl) rfl ?_
  refine W_alloc ty51 rfl rfl (fun b7 => ?_)
  refine W_storeA rfl rfl ty51 rfl rfl (by repeat (first | exact List.mem_cons_self | apply List.mem_cons_of_mem | apply List.mem_append_right)) (Nat.le_of_ble_eq_true rfl) (by simp only [fillL, spliceL, Value.cells, List.take_zero, List.take_succ_cons, List.take_nil, List.drop_zero, List.drop_succ_cons, List.drop_nil, List.nil_append, List.cons_append, List.append_nil, List.length_cons, List.length_nil, Nat.zero_add, Nat.reduceAdd, List.toList_toArray]; rfl) (by repeat (first | exact Upd.head _ | apply Upd.tail | apply Upd.app)) ?_
  refine W_nil ?_
  refine W_sr ?_
  refine W_loadB rfl ty51 rfl (by repeat (first | exact List.mem_cons_self | apply List.mem_cons_of_mem | apply List.mem_append_right)) rfl (by simp only [fillL, spliceL, Value.cells, List.take_zero, List.take_succ_cons, List.take_nil, List.drop_zero, List.drop_succ_cons, List.drop_nil, List.nil_append, List.cons_append, List.append_nil, List.length_cons, List.length_nil, Nat.zero_add, Nat.reduceAdd, List.toList_toArray]; rfl) rfl ?_
  refine W_callq (.cons rfl .nil) Tryd.call25 rfl (check_q (s := s) hcok (by omega) hcc (hrc (by repeat (first | exact HSub.refl _ | refine HSub.cons (by repeat (first | exact Take.here _ | apply Take.next | apply Take.app)) ?_ | refine HSub.app (by repeat (first | exact TakeS.here _ | apply TakeS.next | apply TakeS.app)) ?_ | refine HSub.drop ?_ | refine HSub.dropS ?_ | exact HSub.nil _))) hT) ?_
  refine W_move rfl rfl ?_
  refine W_extract rfl rfl rfl ?_
  refine W_extract rfl rfl rfl ?_
  refine W_assign rfl rfl ?_
  refine W_assign rfl rfl ?_
  refine W_nil ?_
  refine W_seq ?_
  refine W_sr ?_
  refine W_move rfl rfl ?_
  refine W_bin rfl rfl b_neq rfl ?_
  refine W_nil ?_
  refine W_condS rfl (fun c0 => ?_) (fun c0 => ?_)
  · simp only [cond_true, cond_false, Bool.and_eq_true, Bool.or_eq_true, Bool.and_eq_false_iff, Bool.or_eq_false_iff, decide_eq_true_eq, decide_eq_false_iff_not, Bool.not_eq_true', Bool.not_eq_false', ne_eq, Decidable.not_not] at c0
    refine W_sr ?_
    refine W_move rfl rfl ?_
    refine W_move rfl rfl ?_
    refine W_len rfl ty43 rfl rfl ?_
    refine W_min2 rfl rfl (m := (c.length : Int)) (by rw [hcl]; split <;> omega) rfl ?_
    refine W_slice0 (hh := c.length) rfl ty43 ty59 rfl ⟨_, rfl⟩ (by omega) rfl ?_
    refine W_move rfl rfl ?_
    refine W_callq (.cons rfl (.cons rfl .nil)) Tryd.call24 rfl (rcheck_q (s := s) hcok (by omega) (by rw [hc]; exact insRow_take (hrow.up (by repeat (first | exact HSub.refl _ | refine HSub.cons (by repeat (first | exact Take.here _ | apply Take.next | apply Take.app)) ?_ | refine HSub.app (by repeat (first | exact TakeS.here _ | apply TakeS.next | apply TakeS.app)) ?_ | refine HSub.drop ?_ | refine HSub.dropS ?_ | exact HSub.nil _))) 64) hT) ?_
    refine W_move rfl rfl ?_
    refine W_extract rfl rfl rfl ?_
    refine W_extract rfl rfl rfl ?_
    refine W_assign rfl rfl ?_
    refine W_assign rfl rfl ?_
    refine W_nil ?_
    refine W_sr ?_
    refine W_callp .nil Tryd.call23 rfl hT known17_pure ?_
    refine W_move rfl rfl ?_
    refine W_gyes rfl rfl ?_
    refine W_move rfl rfl ?_
    refine W_gyes rfl rfl ?_
    refine W_move rfl rfl ?_
    refine W_gyes rfl rfl ?_
    refine W_bin rfl rfl b_eql rfl ?_
    first | refine W_pickt rfl rfl rfl ?_ | refine W_pickf rfl rfl rfl ?_
    refine W_assign rfl rfl ?_
    refine W_nil ?_
    refine W_ret1m (H2 := H) Tryd.results13 rfl (.nil _) (by repeat (first | exact HSub.refl _ | refine HSub.cons (by repeat (first | exact Take.here _ | apply Take.next | apply Take.app)) ?_ | refine HSub.app (by repeat (first | exact TakeS.here _ | apply TakeS.next | apply TakeS.app)) ?_ | refine HSub.drop ?_ | refine HSub.dropS ?_ | exact HSub.nil _)) ?_
    exact ⟨by first | (simp; done) | (simp; exact next_exit hk hx c2), rfl⟩
  · simp only [cond_true, cond_false, Bool.and_eq_true, Bool.or_eq_true, Bool.and_eq_false_iff, Bool.or_eq_false_iff, decide_eq_true_eq, decide_eq_false_iff_not, Bool.not_eq_true', Bool.not_eq_false', ne_eq, Decidable.not_not] at c0
    refine W_skip ?_
    refine W_seq ?_
    refine W_quietsr (by kernel_rfl) (by decide +kernel) ?_
    refine WQ_x (X_fieldAddr rfl fld51_0 (by decide)) rfl ?_
    refine WQ_x (X_load rfl ty48 rfl (Cell.own (by repeat (first | exact List.mem_cons_self | apply List.mem_cons_of_mem | apply List.mem_append_right)) rfl)) rfl ?_
    refine WQ_callq (.cons rfl .nil) Tryd.call30 rfl (reached_q c hcok (by omega) hcc (hrc (by repeat (first | exact HSub.refl _ | refine HSub.cons (by repeat (first | exact Take.here _ | apply Take.next | apply Take.app)) ?_ | refine HSub.app (by repeat (first | exact TakeS.here _ | apply TakeS.next | apply TakeS.app)) ?_ | refine HSub.drop ?_ | refine HSub.dropS ?_ | exact HSub.nil _))) hT) ?_
    have hchk : (chkR c s).2 = 0 := by simpa using c0
    have hfull := full_of_right hcok hchk
    have hone : onesV ((reachN c : Nat) : Int) = (c.length : Int) := by rw [hfull.1]; exact ones_full ⟨c.length, by omega⟩
    refine WQ_callp (.cons rfl .nil) Tryd.call35 rfl hT (len_pure _) ?_
    refine WQ_x (X_fieldAddr rfl fld51_0 (by decide)) rfl ?_
    refine WQ_x (X_load rfl ty48 rfl (Cell.own (by repeat (first | exact List.mem_cons_self | apply List.mem_cons_of_mem | apply List.mem_append_right)) rfl)) rfl ?_
    refine WQ_x (X_len rfl ty48 rfl) rfl ?_
    rw [hone]
    refine WQ_x (X_bin rfl rfl b_neq) rfl ?_
    refine WQ_nil ?_
    refine W_condF rfl (by simp) ?_
    refine W_skip ?_
    refine W_sr ?_
    refine W_assign rfl rfl ?_
    refine W_nil ?_
    refine W_seq ?_
    refine W_sr ?_
    refine W_assign rfl rfl ?_
    refine W_nil ?_
    refine W_block ?_
    refine W_loopD (X := (Nat × Nat)) (fun x => [(2, .slice aw ws.length capw), (7, .pointer (some ⟨b7, 0, none⟩)), (12, .int .i64 ((x.2 : Nat) : Int)), (13, .int .i64 ((x.1 : Nat) : Int))]) (fun _ => []) (fun _ => (b7, .cells 51 2 [.slice adc c.length capc, .bool s]) :: (HBc ++ H)) (fun x => x.1 ≤ ws.length ∧ x.1 ≤ 100 ∧ x.2 < c.length) (fun x => 100 - x.1) (0, 0) ⟨by simp, by simp, by show 0 < c.length; exact hfull.2.1⟩ (sub_cons rfl (sub_cons rfl (sub_cons rfl (sub_cons rfl (sub_nil _))))) rfl (by repeat (first | exact HSub.refl _ | refine HSub.cons (by repeat (first | exact Take.here _ | apply Take.next | apply Take.app)) ?_ | refine HSub.app (by repeat (first | exact TakeS.here _ | apply TakeS.next | apply TakeS.app)) ?_ | refine HSub.drop ?_ | refine HSub.dropS ?_ | exact HSub.nil _)) ?_
    rintro ⟨i, k⟩ ⟨hi, hi2, hk⟩
    dsimp only at hi hi2 hk ⊢
    refine W_seq ?_
    refine W_sr ?_
    refine W_move rfl rfl ?_
    refine W_move rfl rfl ?_
    refine W_len rfl ty57 rfl rfl ?_
    refine W_bin rfl rfl b_lss rfl ?_
    refine W_move rfl rfl ?_
    apply W_and
    iterate 4 exact rfl
    case h1 =>
      intro hg4
      refine W_gyes rfl rfl ?_
      refine W_move rfl rfl ?_
      refine W_gyes rfl rfl ?_
      refine W_bin rfl rfl b_lss rfl ?_
      exact W_met rfl (by repeat (first | exact .refl | refine .cons rfl ?_))
    refine W_nil ?_
    refine W_condS rfl (fun c1 => ?_) (fun c1 => ?_)
    · simp only [cond_true, cond_false, Bool.and_eq_true, Bool.or_eq_true, Bool.and_eq_false_iff, Bool.or_eq_false_iff, decide_eq_true_eq, decide_eq_false_iff_not, Bool.not_eq_true', Bool.not_eq_false', ne_eq, Decidable.not_not] at c1
      refine W_skip ?_
      refine W_seq ?_
      refine W_block ?_
      refine W_sr ?_
      refine W_fieldAddr rfl fld51_0 (by decide) rfl ?_
      refine W_load rfl ty48 rfl (Cell.own (by repeat (first | exact List.mem_cons_self | apply List.mem_cons_of_mem | apply List.mem_append_right)) rfl) rfl ?_
      refine W_move rfl rfl ?_
      refine W_call (.cons rfl (.cons rfl .nil)) Tryd.call28 rfl (next_L c k ⟨by omega, by omega⟩ (hrc (by repeat (first | exact HSub.refl _ | refine HSub.cons (by repeat (first | exact Take.here _ | apply Take.next | apply Take.app)) ?_ | refine HSub.app (by repeat (first | exact TakeS.here _ | apply TakeS.next | apply TakeS.app)) ?_ | refine HSub.drop ?_ | refine HSub.dropS ?_ | exact HSub.nil _))) hT) ?_
      rintro v1 H' ⟨HB1, hO1, rfl⟩
      obtain ⟨ad1, cap1, rfl, _, hmx1, _⟩ := Holds.of_own (w0 := w0) (H := HB1 ++ H) hO1 (fun p hp => List.mem_append_left _ hp)
      refine W_assign rfl rfl ?_
      refine W_nil ?_
      refine W_seq ?_
      refine W_sr ?_
      obtain ⟨x, hx⟩ : ∃ x, c[k]? = some x := ⟨_, List.getElem?_eq_getElem (by omega)⟩
      obtain ⟨b, o', rfl, hcx⟩ := (hrc (.refl _)).row cells_len (by decide) hx
      refine W_fieldAddr rfl fld51_0 (by decide) rfl ?_
      refine W_load rfl ty48 rfl (Cell.own (by repeat (first | exact List.mem_cons_self | apply List.mem_cons_of_mem | apply List.mem_append_right)) rfl) rfl ?_
      refine W_move rfl rfl ?_
      refine W_indexAddr (j := k) rfl rfl ty48 ty67 rfl (by omega) rfl rfl ?_
      refine W_fieldAddr rfl fld67_0 (by decide) rfl ?_
      refine W_load rfl ty3 rfl (v := .int .i64 x.op) ((hcx 0 _ rfl).up (by repeat (first | exact HSub.refl _ | refine HSub.cons (by repeat (first | exact Take.here _ | apply Take.next | apply Take.app)) ?_ | refine HSub.app (by repeat (first | exact TakeS.here _ | apply TakeS.next | apply TakeS.app)) ?_ | refine HSub.drop ?_ | refine HSub.dropS ?_ | exact HSub.nil _))) rfl ?_
      refine W_bin rfl rfl b_eql rfl ?_
      refine W_nil ?_
      refine W_condS rfl (fun c2 => ?_) (fun c2 => ?_)
      · simp only [cond_true, cond_false, Bool.and_eq_true, Bool.or_eq_true, Bool.and_eq_false_iff, Bool.or_eq_false_iff, decide_eq_true_eq, decide_eq_false_iff_not, Bool.not_eq_true', Bool.not_eq_false', ne_eq, Decidable.not_not] at c2
        refine W_sr ?_
        refine W_callp .nil Tryd.call23 rfl hT known17_pure ?_
        refine W_move rfl rfl ?_
        apply W_and
        iterate 4 exact rfl
        case h1 =>
          intro hg1
          refine W_gyes rfl rfl ?_
          refine W_move rfl rfl ?_
          refine W_gyes rfl rfl ?_
          refine W_len rfl ty54 rfl rfl ?_
          refine W_gyes rfl rfl ?_
          refine W_bin rfl rfl b_eql rfl ?_
          exact W_met rfl (by repeat (first | exact .refl | refine .cons rfl ?_))
        refine W_assign rfl rfl ?_
        refine W_nil ?_
        refine W_ret1m (H2 := H) Tryd.results13 rfl (.nil _) (by repeat (first | exact HSub.refl _ | refine HSub.cons (by repeat (first | exact Take.here _ | apply Take.next | apply Take.app)) ?_ | refine HSub.app (by repeat (first | exact TakeS.here _ | apply TakeS.next | apply TakeS.app)) ?_ | refine HSub.drop ?_ | refine HSub.dropS ?_ | exact HSub.nil _)) ?_
        exact ⟨by first | (simp; done) | (simp; exact next_exit hk hx c2), rfl⟩
      · simp only [cond_true, cond_false, Bool.and_eq_true, Bool.or_eq_true, Bool.and_eq_false_iff, Bool.or_eq_false_iff, decide_eq_true_eq, decide_eq_false_iff_not, Bool.not_eq_true', Bool.not_eq_false', ne_eq, Decidable.not_not] at c2
        refine W_skip ?_
        refine W_seq ?_
        refine W_sr ?_
        refine W_move rfl rfl ?_
        refine W_len rfl ty54 rfl rfl ?_
        refine W_bin rfl rfl b_eql rfl ?_
        refine W_move rfl rfl ?_
        apply W_or
        iterate 4 exact rfl
        case h1 =>
          intro hg3
          refine W_gyes rfl rfl ?_
          refine W_move rfl rfl ?_
          refine W_gyes rfl rfl ?_
          refine W_len rfl ty54 rfl rfl ?_
          refine W_gyes rfl rfl ?_
          refine W_bin rfl rfl b_gtr rfl ?_
          exact W_met rfl (by repeat (first | exact .refl | refine .cons rfl ?_))
        refine W_nil ?_
        refine W_condF rfl (by obtain ⟨h1, h2⟩ := next_some hcok hchk hk hx (by simpa using c2); simp [h1]; omega) ?_
        refine W_skip ?_
        refine W_sr ?_
        obtain ⟨hne0, hlen2⟩ := next_some hcok hchk hk hx c2
        have hpos := List.length_pos_iff.2 hne0
        obtain ⟨z0, hz0⟩ : ∃ z, (nextL c k)[0]? = some z := ⟨_, List.getElem?_eq_getElem (by omega)⟩
        have hr0 := next_range (List.mem_of_getElem? hz0)
        obtain ⟨y0, rfl⟩ := Int.eq_ofNat_of_zero_le hr0.1
        have hzz0 : (i64s (nextL c k))[0]? = some (.int .i64 (y0 : Int)) := by simp [i64s, hz0]
        obtain ⟨z1, hz1⟩ : ∃ z, (nextL c k)[(nextL c k).length - 1]? = some z := ⟨_, List.getElem?_eq_getElem (by omega)⟩
        have hr1 := next_range (List.mem_of_getElem? hz1)
        obtain ⟨y1, rfl⟩ := Int.eq_ofNat_of_zero_le hr1.1
        have hzz1 : (i64s (nextL c k))[(nextL c k).length - 1]? = some (.int .i64 (y1 : Int)) := by simp [i64s, hz1]
        obtain ⟨_, _, e1, _, _, hh1⟩ := Holds.of_own (w0 := w0) (H := HB1 ++ []) hO1 (fun p hp => List.mem_append_left _ hp)
        cases e1
        obtain ⟨b1, o1, rfl, hcz0⟩ := hh1.at hzz0
        obtain ⟨b1, o1, e2, hcz1⟩ := hh1.at hzz1
        cases e2
        refine W_move rfl rfl ?_
        refine W_indexAddr (j := 0) rfl rfl ty54 ty3 rfl (by omega) rfl rfl ?_
        refine W_load rfl ty3 rfl (v := .int .i64 (y0 : Int)) (by simpa using hcz0.up (by repeat (first | exact HSub.refl _ | refine HSub.cons (by repeat (first | exact Take.here _ | apply Take.next | apply Take.app)) ?_ | refine HSub.app (by repeat (first | exact TakeS.here _ | apply TakeS.next | apply TakeS.app)) ?_ | refine HSub.drop ?_ | refine HSub.dropS ?_ | exact HSub.nil _))) rfl ?_
        refine W_assign rfl rfl ?_
        refine W_nil ?_
        refine W_seq ?_
        refine W_sr ?_
        obtain ⟨bw, hbw⟩ : ∃ b, ws[i]? = some b := ⟨_, List.getElem?_eq_getElem (by omega)⟩
        obtain ⟨b2, o2, rfl, hcw⟩ := hways.at (i := i) (v := .bool bw) (by simp [bools, hbw])
        refine W_move rfl rfl ?_
        refine W_move rfl rfl ?_
        refine W_indexAddr (j := i) rfl rfl ty57 ty4 rfl (by omega) rfl rfl ?_
        refine W_load rfl ty4 rfl (v := .bool bw) (by rw [Nat.mul_one]; exact hcw.up (by repeat (first | exact HSub.refl _ | refine HSub.cons (by repeat (first | exact Take.here _ | apply Take.next | apply Take.app)) ?_ | refine HSub.app (by repeat (first | exact TakeS.here _ | apply TakeS.next | apply TakeS.app)) ?_ | refine HSub.drop ?_ | refine HSub.dropS ?_ | exact HSub.nil _))) rfl ?_
        refine W_nil ?_
        refine W_condS rfl (fun c3 => ?_) (fun c3 => ?_)
        · skip
          refine W_region ?_
          refine W_move rfl rfl ?_
          refine W_move rfl rfl ?_
          refine W_len rfl ty54 rfl rfl ?_
          refine W_bin rfl rfl (b_sub (m := (((nextL c k).length - 1 : Nat) : Int)) ((i64w (by omega)).trans (by omega))) rfl ?_
          refine W_indexAddr (j := (nextL c k).length - 1) rfl rfl ty54 ty3 rfl (by omega) rfl rfl ?_
          refine W_load rfl ty3 rfl (v := .int .i64 (y1 : Int)) (by rw [Nat.mul_one]; exact hcz1.up (by repeat (first | exact HSub.refl _ | refine HSub.cons (by repeat (first | exact Take.here _ | apply Take.next | apply Take.app)) ?_ | refine HSub.app (by repeat (first | exact TakeS.here _ | apply TakeS.next | apply TakeS.app)) ?_ | refine HSub.drop ?_ | refine HSub.dropS ?_ | exact HSub.nil _))) rfl ?_
          refine W_assign rfl rfl ?_
          refine W_nil ?_
          refine W_sr ?_
          refine W_move rfl rfl ?_
          refine W_bin rfl rfl b_lss rfl ?_
          refine W_move rfl rfl ?_
          apply W_or
          iterate 4 exact rfl
          case h1 =>
            intro hg2
            refine W_gyes rfl rfl ?_
            refine W_move rfl rfl ?_
            refine W_gyes rfl rfl ?_
            refine W_fieldAddr rfl fld51_0 (by decide) rfl ?_
            refine W_gyes rfl rfl ?_
            refine W_load rfl ty48 rfl (Cell.own (by repeat (first | exact List.mem_cons_self | apply List.mem_cons_of_mem | apply List.mem_append_right)) rfl) rfl ?_
            refine W_gyes rfl rfl ?_
            refine W_len rfl ty48 rfl rfl ?_
            refine W_gyes rfl rfl ?_
            refine W_bin rfl rfl b_geq rfl ?_
            exact W_met rfl (by repeat (first | exact .refl | refine .cons rfl ?_))
          refine W_nil ?_
          refine W_condF rfl (by simp; omega) ?_
          refine W_skip ?_
          refine W_blk ?_
          refine W_region ?_
          refine W_move rfl rfl ?_
          refine W_bin rfl rfl (b_add (m := ((i + 1 : Nat) : Int)) ((i64w (by omega)).trans (by omega))) rfl ?_
          refine W_assign rfl rfl ?_
          refine W_nil ?_
          refine W_again (i + 1, y1) ⟨by show i + 1 ≤ ws.length; omega, by show i + 1 ≤ 100; omega, by show y1 < c.length; omega⟩ (by show 100 - (i + 1) < 100 - i; omega) (sub_cons rfl (sub_cons rfl (sub_cons rfl (sub_cons rfl (sub_nil _))))) rfl (by repeat (first | exact HSub.refl _ | refine HSub.cons (by repeat (first | exact Take.here _ | apply Take.next | apply Take.app)) ?_ | refine HSub.app (by repeat (first | exact TakeS.here _ | apply TakeS.next | apply TakeS.app)) ?_ | refine HSub.drop ?_ | refine HSub.dropS ?_ | exact HSub.nil _))
        · skip
          refine W_skip ?_
          refine W_sr ?_
          refine W_move rfl rfl ?_
          refine W_bin rfl rfl b_lss rfl ?_
          refine W_move rfl rfl ?_
          apply W_or
          iterate 4 exact rfl
          case h1 =>
            intro hg2
            refine W_gyes rfl rfl ?_
            refine W_move rfl rfl ?_
            refine W_gyes rfl rfl ?_
            refine W_fieldAddr rfl fld51_0 (by decide) rfl ?_
            refine W_gyes rfl rfl ?_
            refine W_load rfl ty48 rfl (Cell.own (by repeat (first | exact List.mem_cons_self | apply List.mem_cons_of_mem | apply List.mem_append_right)) rfl) rfl ?_
            refine W_gyes rfl rfl ?_
            refine W_len rfl ty48 rfl rfl ?_
            refine W_gyes rfl rfl ?_
            refine W_bin rfl rfl b_geq rfl ?_
            exact W_met rfl (by repeat (first | exact .refl | refine .cons rfl ?_))
          refine W_nil ?_
          refine W_condF rfl (by simp; omega) ?_
          refine W_skip ?_
          refine W_blk ?_
          refine W_region ?_
          refine W_move rfl rfl ?_
          refine W_bin rfl rfl (b_add (m := ((i + 1 : Nat) : Int)) ((i64w (by omega)).trans (by omega))) rfl ?_
          refine W_assign rfl rfl ?_
          refine W_nil ?_
          refine W_again (i + 1, y0) ⟨by show i + 1 ≤ ws.length; omega, by show i + 1 ≤ 100; omega, by show y0 < c.length; omega⟩ (by show 100 - (i + 1) < 100 - i; omega) (sub_cons rfl (sub_cons rfl (sub_cons rfl (sub_cons rfl (sub_nil _))))) rfl (by repeat (first | exact HSub.refl _ | refine HSub.cons (by repeat (first | exact Take.here _ | apply Take.next | apply Take.app)) ?_ | refine HSub.app (by repeat (first | exact TakeS.here _ | apply TakeS.next | apply TakeS.app)) ?_ | refine HSub.drop ?_ | refine HSub.dropS ?_ | exact HSub.nil _))
    · simp only [cond_true, cond_false, Bool.and_eq_true, Bool.or_eq_true, Bool.and_eq_false_iff, Bool.or_eq_false_iff, decide_eq_true_eq, decide_eq_false_iff_not, Bool.not_eq_true', Bool.not_eq_false', ne_eq, Decidable.not_not] at c1
      refine W_exit rfl ?_
      refine W_sr ?_
      refine W_callp .nil Tryd.call23 rfl hT known17_pure ?_
      refine W_assign rfl rfl ?_
      refine W_nil ?_
      refine W_ret1m (H2 := H) Tryd.results13 rfl (.nil _) (by repeat (first | exact HSub.refl _ | refine HSub.cons (by repeat (first | exact Take.here _ | apply Take.next | apply Take.app)) ?_ | refine HSub.app (by repeat (first | exact TakeS.here _ | apply TakeS.next | apply TakeS.app)) ?_ | refine HSub.drop ?_ | refine HSub.dropS ?_ | exact HSub.nil _)) ?_
      exact ⟨by first | (simp; done) | (simp; exact next_exit hk hx c2), rfl⟩
end Go.Proofs.YtpfoecmianohjaaDoor
