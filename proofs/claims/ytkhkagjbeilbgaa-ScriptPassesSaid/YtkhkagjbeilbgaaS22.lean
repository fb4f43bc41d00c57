/-
  Own work: contracts of functions that the statement reaches, and plain facts on what they compute; each theorem says its conditions.
-/
import Derived.Test.YtkhkagjbeilbgaaS21
set_option linter.all false
set_option linter.unusedSimpArgs false
set_option linter.unusedVariables false
namespace Go.Proofs.Ytkhkagjbeilbgaa
open Go Go.Sl
attribute [local irreducible] W
open Go.Script

theorem sts_len' {l : List Sr} {i : Nat} : (sts l i).length = (cuts l i).length := by unfold sts; rw [List.length_map]
/-- an entry of no kind, laid between two scripts -/
theorem parse_between {p q : List St} {k : Int} {bad : List Int} (hp : ∀ s ∈ p, StOk s ∧ chk s = 0) (hq : ∀ s ∈ q, StOk s ∧ chk s = 0) (hk : isK k = false) (hl : bad.length < 65536) :
    parse (encs p ++ ((k :: lowL (bad.length : Nat) 2) ++ bad) ++ encs q) = entsOf 0 p ++ ⟨(encs p).length, zeroS, 11⟩ :: entsOf ((encs p).length + (3 + bad.length)) q := by
  rw [parse_from, from_encs (l := p) (rest := (k :: lowL (bad.length : Nat) 2) ++ bad ++ encs q) hp (by simp)]
  congr 1
  have hd : (encs p ++ ((k :: lowL (bad.length : Nat) 2) ++ bad) ++ encs q).drop (0 + (encs p).length) = k :: (lowL (bad.length : Nat) 2 ++ bad ++ encs q) := by
    rw [Nat.zero_add, List.append_assoc, List.drop_left' rfl]; simp
  rw [from_entry hd hl, show one k bad = (zeroS, 11) by unfold one; rw [if_pos hk], Nat.zero_add]
  congr 1
  have hd2 : (encs p ++ ((k :: lowL (bad.length : Nat) 2) ++ bad) ++ encs q).drop ((encs p).length + (3 + bad.length)) = encs q ++ [] := by
    rw [List.append_nil]
    exact List.drop_left' (by first | (simp only [List.length_append, List.length_cons, lowL_len]; done) | (simp only [List.length_append, List.length_cons, lowL_len]; omega))
  rw [from_encs hq hd2, from_end (by first | (simp only [List.length_append, List.length_cons, lowL_len]; done) | (simp only [List.length_append, List.length_cons, lowL_len]; omega)), List.append_nil]
theorem ents_mid {p q : List St} {a b : Nat} {e : En} {es : List Er} (h : es.map Er.en = entsOf a p ++ e :: entsOf b q) (he : e.err ≠ 0) :
    es.length = p.length + q.length + 1 ∧ (∃ x, es[p.length]? = some x ∧ x.en = e) ∧ (stepsOf es).map Sr.st = p ++ q := by
  have hlen : es.length = p.length + q.length + 1 := by
    have := congrArg List.length h
    simp only [List.length_map, List.length_append, List.length_cons, entsOf_len] at this
    omega
  refine ⟨hlen, ?_, ?_⟩
  · refine ⟨es[p.length]'(by omega), List.getElem?_eq_getElem _, ?_⟩
    have h1 : (es.map Er.en)[p.length]? = some e := by
      rw [h, List.getElem?_append_right (by rw [entsOf_len]; exact Nat.le_refl _), entsOf_len, Nat.sub_self]; rfl
    rw [List.getElem?_map, List.getElem?_eq_getElem (by omega)] at h1
    exact Option.some.inj h1
  · have hs : ∀ (es : List Er), (stepsOf es).map Sr.st = (es.map Er.en).filterMap (fun e => if e.err = 0 then some e.st else none) := by
      intro es
      induction es with
      | nil => rfl
      | cons e es ih =>
        unfold stepsOf at ih ⊢
        rw [List.filterMap_cons, List.map_cons, List.filterMap_cons]
        by_cases h0 : e.err = 0
        · rw [if_pos h0, show (Er.en e).err = 0 from h0, if_pos rfl]; simp only [List.map_cons, ih]; rfl
        · rw [if_neg h0, if_neg (show ¬ (Er.en e).err = 0 from h0)]; simpa using ih
    have he2 : ∀ (l : List St) (a : Nat), (entsOf a l).filterMap (fun e => if e.err = 0 then some e.st else none) = l := by
      intro l
      induction l with
      | nil => intro a; rfl
      | cons s l ih => intro a; show (⟨a, s, 0⟩ :: entsOf (a + (enc s).length) l).filterMap _ = _; rw [List.filterMap_cons]; simp [ih]
    rw [hs, h, List.filterMap_append, he2, List.filterMap_cons, if_neg he]
    simp only [he2]
theorem low_two (n : Nat) : lowL (n : Nat) 2 = [(n : Int) % 256, (n : Int) / 256 % 256] := rfl
theorem bytes_app {a b : List Int} (ha : Go.Script.Bytes a) (hb : Go.Script.Bytes b) : Go.Script.Bytes (a ++ b) := fun x hx => (List.mem_append.1 hx).elim (ha x) (hb x)
attribute [local irreducible] cuts sts encs okL stepsOf enc chk parse
set_option maxHeartbeats 8000000 in
theorem scriptPasses_pure {l1 l2 : List Sr} {ad1 ad2 ad3 : Option Addr} {cap1 cap2 cap3 : Nat} {k : Int} {l3 : List Int} (hk : 0 ≤ k ∧ k < 256) (hb : Go.Script.Bytes l3) (hcap3 : l3.length ≤ cap3) : Pure Try.prog (fun w => InRow w ad1 (srRow l1) ∧ Given w l1 ∧ InRow w ad2 (srRow l2) ∧ Given w l2 ∧ InRow w ad3 (bytesV l3)) 5 [.slice ad1 l1.length cap1, .slice ad2 l2.length cap2, .int .u8 k, .slice ad3 l3.length cap3] (.bool true) := by
  intro w0 H hT
  obtain ⟨hrow1', hg1, hrow2', hg2, hrow3'⟩ := id hT
  clear hT
  have hrow1 : Holds w0 H ad1 (srRow l1) := Holds.old hrow1'
  have hrow2 : Holds w0 H ad2 (srRow l2) := Holds.old hrow2'
  obtain ⟨bad, hbd⟩ : ∃ c, c = l3.take 300 := ⟨_, rfl⟩
  have hbl : bad.length = min l3.length 300 := by rw [hbd, List.length_take, Nat.min_comm]
  have hbb : Go.Script.Bytes bad := by rw [hbd]; exact hb.take _
  have hbrow : Holds w0 H ad3 (bytesV bad) := by rw [hbd, bytesV_take]; exact (Holds.old hrow3').take _
  refine L_enter Try.func5 rfl Try.ntmps5 rfl rfl ?_
  refine W_sr ?_
  refine W_assign rfl rfl ?_
  refine W_nil ?_
  refine W_sr ?_
  refine W_move rfl rfl ?_
  refine W_move rfl rfl ?_
  refine W_len rfl ty22 rfl rfl ?_
  refine W_min2 rfl rfl (m := (bad.length : Int)) (by rw [hbl]; split <;> omega) rfl ?_
  refine W_slice0 (hh := bad.length) rfl ty22 ty5 rfl ⟨_, rfl⟩ (by omega) rfl ?_
  refine W_assign rfl rfl ?_
  refine W_nil ?_
  refine W_sr ?_
  refine W_assign rfl rfl ?_
  refine W_nil ?_
  refine W_sr ?_
  refine W_assign rfl rfl ?_
  refine W_nil ?_
  refine W_seq ?_
  refine W_sr ?_
  refine W_assign rfl rfl ?_
  refine W_nil ?_
  refine W_block ?_
  refine W_loopC (X := (Nat × Value × Heap)) [(0, _), (1, _), (2, _), (3, _), (10, _)] (fun (x : (Nat × Value × Heap)) => [(9, x.2.1), (11, .int .i64 (x.1 : Int))]) (fun _ => _) (fun (x : (Nat × Value × Heap)) => x.2.2 ++ (H)) (fun (x : (Nat × Value × Heap)) => x.1 ≤ l1.length ∧ x.1 ≤ 10 ∧ OwnS 29 7 x.2.1 (cuts l1 x.1).length (srRow (cuts l1 x.1)) x.2.2) (fun (x : (Nat × Value × Heap)) => 10 - x.1) (0, .slice none 0 0, []) ⟨by simp, by simp, by show OwnS _ _ _ (cuts l1 0).length (srRow (cuts l1 0)) _; rw [cuts0]; exact .nil⟩ (sub_cons rfl (sub_cons rfl (sub_cons rfl (sub_cons rfl (sub_cons rfl (sub_nil _)))))) (sub_cons rfl (sub_cons rfl (sub_nil _))) rfl (HSub.refl _) ?_
  rintro ⟨i1, xv1, XB1⟩ ⟨hi1, hj1, hX1⟩
  dsimp only at hi1 hj1 hX1 ⊢
  have hcl1 := cuts_len hi1
  simp only [List.cons_append, List.nil_append]
  refine W_seq ?_
  refine W_sr ?_
  refine W_move rfl rfl ?_
  refine W_move rfl rfl ?_
  refine W_len rfl ty39 rfl rfl ?_
  refine W_bin rfl rfl b_lss rfl ?_
  refine W_move rfl rfl ?_
  apply W_and
  iterate 4 exact rfl
  case h1 =>
    intro hg4
    refine W_gyes rfl rfl ?_
    refine W_move rfl rfl ?_
    refine W_gyes rfl rfl ?_
    refine W_bin rfl rfl b_lss rfl ?_
    exact W_met rfl (by repeat (first | exact .refl | refine .cons rfl ?_))
  refine W_nil ?_
  refine W_condS rfl (fun c0 => ?_) (fun c0 => ?_)
  · simp only [cond_true, cond_false, Bool.and_eq_true, Bool.or_eq_true, Bool.and_eq_false_iff, Bool.or_eq_false_iff, decide_eq_true_eq, decide_eq_false_iff_not, Bool.not_eq_true', Bool.not_eq_false', ne_eq, Decidable.not_not] at c0
    refine W_skip ?_
    refine W_seq ?_
    refine W_block ?_
    refine W_region ?_
    obtain ⟨x, hx⟩ : ∃ x, l1[i1]? = some x := ⟨_, List.getElem?_eq_getElem (by omega)⟩
    have hxc := hg1.cap x (List.mem_of_getElem? hx)
    obtain ⟨q0, p0, rfl, hcx⟩ := hrow1.row sr_len (by decide) hx
    refine W_move rfl rfl ?_
    refine W_move rfl rfl ?_
    refine W_move rfl rfl ?_
    refine W_indexAddr (j := i1) rfl rfl ty39 ty33 (by first | rfl | omega) (by first | decide | omega | simp) rfl rfl ?_
    refine W_loadA rfl ty33 rfl (vs := x.cells) rfl (hcx.up (by repeat (first | with_reducible exact HSub.refl _ | refine HSub.cons (by repeat (first | exact Take.here _ | apply Take.next | apply Take.app)) ?_ | refine HSub.app (by repeat (first | with_reducible exact TakeS.here _ | apply TakeS.next | apply TakeS.app)) ?_ | exact HSub.nil _ | exact HSub.refl _ | refine HSub.drop ?_ | refine HSub.dropS ?_))) rfl ?_
    refine W_callp (.cons rfl .nil) Try.call11 rfl (T := fun _ => True) trivial (cut_pure _ hxc) ?_
    refine W_callp (.cons rfl .nil) Try.call12 rfl (T := fun _ => True) trivial (to_pure _) ?_
    refine W_buildSlice ty40 ty29 (.cons rfl rfl rfl rfl rfl .nil) rfl rfl rfl rfl rfl rfl rfl (fun b44 => ?_)
    refine W_append (news := x.cut.cells) (m := 1) (HB := XB1) (H0 := H) rfl rfl ty40 ty29 rfl (by decide) hX1 rfl (Holds.own List.mem_cons_self) rfl (by simp only [maxLen]; omega) (by omega) (by repeat (first | with_reducible exact HSub.refl _ | refine HSub.cons (by repeat (first | exact Take.here _ | apply Take.next | apply Take.app)) ?_ | refine HSub.app (by repeat (first | with_reducible exact TakeS.here _ | apply TakeS.next | apply TakeS.app)) ?_ | exact HSub.nil _ | exact HSub.refl _ | refine HSub.drop ?_ | refine HSub.dropS ?_)) rfl (fun v' HB' hO' => ?_)
    refine W_assign rfl rfl ?_
    refine W_nil ?_
    refine W_blk ?_
    refine W_region ?_
    refine W_move rfl rfl ?_
    refine W_bin rfl rfl (b_add (m := ((i1 + 1 : Nat) : Int)) ((i64w (by omega)).trans (by omega))) rfl ?_
    refine W_assign rfl rfl ?_
    refine W_nil ?_
    refine W_again (i1 + 1, v', HB') ⟨by show i1 + 1 ≤ l1.length; omega, by show i1 + 1 ≤ 10; omega, by show OwnS _ _ v' (cuts l1 (i1 + 1)).length (srRow (cuts l1 (i1 + 1))) HB'; rw [cuts_succ hx, List.length_append, srRow_append]; exact hO'⟩ (by show 10 - (i1 + 1) < 10 - i1; omega) (sub_cons rfl (sub_cons rfl (sub_cons rfl (sub_cons rfl (sub_cons rfl (sub_cons rfl (sub_cons rfl (sub_nil _)))))))) rfl (by repeat (first | with_reducible exact HSub.refl _ | refine HSub.cons (by repeat (first | exact Take.here _ | apply Take.next | apply Take.app)) ?_ | refine HSub.app (by repeat (first | with_reducible exact TakeS.here _ | apply TakeS.next | apply TakeS.app)) ?_ | exact HSub.nil _ | exact HSub.refl _ | refine HSub.drop ?_ | refine HSub.dropS ?_))
  · simp only [cond_true, cond_false, Bool.and_eq_true, Bool.or_eq_true, Bool.and_eq_false_iff, Bool.or_eq_false_iff, decide_eq_true_eq, decide_eq_false_iff_not, Bool.not_eq_true', Bool.not_eq_false', ne_eq, Decidable.not_not] at c0
    refine W_exit rfl ?_
    refine W_seq ?_
    refine W_sr ?_
    refine W_assign rfl rfl ?_
    refine W_nil ?_
    refine W_block ?_
    refine W_loopC (X := (Nat × Value × Heap)) [(1, _), (2, _), (3, _), (9, _)] (fun (x : (Nat × Value × Heap)) => [(10, x.2.1), (12, .int .i64 (x.1 : Int))]) (fun _ => _) (fun (x : (Nat × Value × Heap)) => x.2.2 ++ (XB1 ++ H)) (fun (x : (Nat × Value × Heap)) => x.1 ≤ l2.length ∧ x.1 ≤ 10 ∧ OwnS 29 7 x.2.1 (cuts l2 x.1).length (srRow (cuts l2 x.1)) x.2.2) (fun (x : (Nat × Value × Heap)) => 10 - x.1) (0, .slice none 0 0, []) ⟨by simp, by simp, by show OwnS _ _ _ (cuts l2 0).length (srRow (cuts l2 0)) _; rw [cuts0]; exact .nil⟩ (sub_cons rfl (sub_cons rfl (sub_cons rfl (sub_cons rfl (sub_nil _))))) (sub_cons rfl (sub_cons rfl (sub_nil _))) rfl (HSub.refl _) ?_
    rintro ⟨i2, xv2, XB2⟩ ⟨hi2, hj2, hX2⟩
    dsimp only at hi2 hj2 hX2 ⊢
    have hcl2 := cuts_len hi2
    simp only [List.cons_append, List.nil_append]
    refine W_seq ?_
    refine W_sr ?_
    refine W_move rfl rfl ?_
    refine W_move rfl rfl ?_
    refine W_len rfl ty39 rfl rfl ?_
    refine W_bin rfl rfl b_lss rfl ?_
    refine W_move rfl rfl ?_
    apply W_and
    iterate 4 exact rfl
    case h1 =>
      intro hg4
      refine W_gyes rfl rfl ?_
      refine W_move rfl rfl ?_
      refine W_gyes rfl rfl ?_
      refine W_bin rfl rfl b_lss rfl ?_
      exact W_met rfl (by repeat (first | exact .refl | refine .cons rfl ?_))
    refine W_nil ?_
    refine W_condS rfl (fun c1 => ?_) (fun c1 => ?_)
    · simp only [cond_true, cond_false, Bool.and_eq_true, Bool.or_eq_true, Bool.and_eq_false_iff, Bool.or_eq_false_iff, decide_eq_true_eq, decide_eq_false_iff_not, Bool.not_eq_true', Bool.not_eq_false', ne_eq, Decidable.not_not] at c1
      refine W_skip ?_
      refine W_seq ?_
      refine W_block ?_
      refine W_region ?_
      obtain ⟨x, hx⟩ : ∃ x, l2[i2]? = some x := ⟨_, List.getElem?_eq_getElem (by omega)⟩
      have hxc := hg2.cap x (List.mem_of_getElem? hx)
      obtain ⟨q0, p0, rfl, hcx⟩ := hrow2.row sr_len (by decide) hx
      refine W_move rfl rfl ?_
      refine W_move rfl rfl ?_
      refine W_move rfl rfl ?_
      refine W_indexAddr (j := i2) rfl rfl ty39 ty33 (by first | rfl | omega) (by first | decide | omega | simp) rfl rfl ?_
      refine W_loadA rfl ty33 rfl (vs := x.cells) rfl (hcx.up (by repeat (first | with_reducible exact HSub.refl _ | refine HSub.cons (by repeat (first | exact Take.here _ | apply Take.next | apply Take.app)) ?_ | refine HSub.app (by repeat (first | with_reducible exact TakeS.here _ | apply TakeS.next | apply TakeS.app)) ?_ | exact HSub.nil _ | exact HSub.refl _ | refine HSub.drop ?_ | refine HSub.dropS ?_))) rfl ?_
      refine W_callp (.cons rfl .nil) Try.call11 rfl (T := fun _ => True) trivial (cut_pure _ hxc) ?_
      refine W_callp (.cons rfl .nil) Try.call12 rfl (T := fun _ => True) trivial (to_pure _) ?_
      refine W_buildSlice ty40 ty29 (.cons rfl rfl rfl rfl rfl .nil) rfl rfl rfl rfl rfl rfl rfl (fun b63 => ?_)
      refine W_append (news := x.cut.cells) (m := 1) (HB := XB2) (H0 := XB1 ++ H) rfl rfl ty40 ty29 rfl (by decide) hX2 rfl (Holds.own List.mem_cons_self) rfl (by simp only [maxLen]; omega) (by omega) (by repeat (first | with_reducible exact HSub.refl _ | refine HSub.cons (by repeat (first | exact Take.here _ | apply Take.next | apply Take.app)) ?_ | refine HSub.app (by repeat (first | with_reducible exact TakeS.here _ | apply TakeS.next | apply TakeS.app)) ?_ | exact HSub.nil _ | exact HSub.refl _ | refine HSub.drop ?_ | refine HSub.dropS ?_)) rfl (fun v' HB' hO' => ?_)
      refine W_assign rfl rfl ?_
      refine W_nil ?_
      refine W_blk ?_
      refine W_region ?_
      refine W_move rfl rfl ?_
      refine W_bin rfl rfl (b_add (m := ((i2 + 1 : Nat) : Int)) ((i64w (by omega)).trans (by omega))) rfl ?_
      refine W_assign rfl rfl ?_
      refine W_nil ?_
      refine W_again (i2 + 1, v', HB') ⟨by show i2 + 1 ≤ l2.length; omega, by show i2 + 1 ≤ 10; omega, by show OwnS _ _ v' (cuts l2 (i2 + 1)).length (srRow (cuts l2 (i2 + 1))) HB'; rw [cuts_succ hx, List.length_append, srRow_append]; exact hO'⟩ (by show 10 - (i2 + 1) < 10 - i2; omega) (sub_cons rfl (sub_cons rfl (sub_cons rfl (sub_cons rfl (sub_cons rfl (sub_cons rfl (sub_nil _))))))) rfl (by repeat (first | with_reducible exact HSub.refl _ | refine HSub.cons (by repeat (first | exact Take.here _ | apply Take.next | apply Take.app)) ?_ | refine HSub.app (by repeat (first | with_reducible exact TakeS.here _ | apply TakeS.next | apply TakeS.app)) ?_ | exact HSub.nil _ | exact HSub.refl _ | refine HSub.drop ?_ | refine HSub.dropS ?_))
    · simp only [cond_true, cond_false, Bool.and_eq_true, Bool.or_eq_true, Bool.and_eq_false_iff, Bool.or_eq_false_iff, decide_eq_true_eq, decide_eq_false_iff_not, Bool.not_eq_true', Bool.not_eq_false', ne_eq, Decidable.not_not] at c1
      refine W_exit rfl ?_
      refine W_sr ?_
      obtain ⟨a1, c1, rfl, hac1, _, hh1⟩ := Holds.of_own (w0 := w0) (H := XB1 ++ []) hX1 (fun p hp => List.mem_append_left _ hp)
      obtain ⟨a2, c2, rfl, hac2, _, hh2⟩ := Holds.of_own (w0 := w0) (H := XB2 ++ []) hX2 (fun p hp => List.mem_append_left _ hp)
      refine W_move rfl rfl ?_
      refine W_call (.cons rfl .nil) Try.call15 rfl (bytes_L (l := cuts l1 i1) (by omega) (cuts_ok hg1) (hh1.up (by repeat (first | with_reducible exact HSub.refl _ | refine HSub.cons (by repeat (first | exact Take.here _ | apply Take.next | apply Take.app)) ?_ | refine HSub.app (by repeat (first | with_reducible exact TakeS.here _ | apply TakeS.next | apply TakeS.app)) ?_ | exact HSub.nil _ | exact HSub.refl _ | refine HSub.drop ?_ | refine HSub.dropS ?_)))) ?_
      rintro v H' (⟨e1, hF1, rfl, rfl⟩ | ⟨hall1, sv1, HBa, hOa, rfl, rfl⟩)
      · skip
        have hne1 := (wantL_first hF1).2
        refine W_move rfl rfl ?_
        refine W_extract rfl rfl rfl ?_
        refine W_extract rfl rfl rfl ?_
        refine W_assign rfl rfl ?_
        refine W_assign rfl rfl ?_
        refine W_nil ?_
        refine W_sr ?_
        refine W_move rfl rfl ?_
        refine W_call (.cons rfl .nil) Try.call15 rfl (bytes_L (l := cuts l2 i2) (by omega) (cuts_ok hg2) (hh2.up (by repeat (first | with_reducible exact HSub.refl _ | refine HSub.cons (by repeat (first | exact Take.here _ | apply Take.next | apply Take.app)) ?_ | refine HSub.app (by repeat (first | with_reducible exact TakeS.here _ | apply TakeS.next | apply TakeS.app)) ?_ | exact HSub.nil _ | exact HSub.refl _ | refine HSub.drop ?_ | refine HSub.dropS ?_)))) ?_
        rintro v H' (⟨e2, hF2, rfl, rfl⟩ | ⟨hall2, sv2, HBb, hOb, rfl, rfl⟩)
        · skip
          have hne2 := (wantL_first hF2).2
          refine W_move rfl rfl ?_
          refine W_extract rfl rfl rfl ?_
          refine W_extract rfl rfl rfl ?_
          refine W_assign rfl rfl ?_
          refine W_assign rfl rfl ?_
          refine W_nil ?_
          refine W_seq ?_
          refine W_sr ?_
          refine W_move rfl rfl ?_
          refine W_bin rfl rfl b_neq rfl ?_
          rw [decide_eq_true (by exact hne1)]
          refine W_move rfl rfl ?_
          refine W_gno rfl rfl rfl ?_
          refine W_gno rfl rfl rfl ?_
          first | refine W_pickt rfl rfl rfl ?_ | refine W_pickf rfl rfl rfl ?_
          refine W_nil ?_
          refine W_condT rfl rfl ?_
          refine W_sr ?_
          refine W_callp .nil Try.call10 rfl (T := fun _ => True) trivial (known_pure ) ?_
          refine W_assign rfl rfl ?_
          refine W_nil ?_
          refine W_ret1m (H2 := H) Try.results5 rfl (.nil _) (by repeat (first | with_reducible exact HSub.refl _ | refine HSub.drop ?_ | refine HSub.dropS ?_)) ?_
          exact ⟨rfl, rfl⟩
        · skip
          have hok2 : ∀ s ∈ sts l2 i2, StOk s ∧ chk s = 0 := fun s hs => by
            obtain ⟨r, hr, rfl⟩ := sts_mem hs
            exact ⟨(cuts_ok (w0 := w0) (H := H) hg2 r hr).st, hall2 _ (List.mem_map.2 ⟨r, hr, rfl⟩)⟩
          have hOb : OwnS 5 1 sv2 (encs (sts l2 i2)).length (bytesV (encs (sts l2 i2))) HBb := by unfold sts; exact hOb
          have hel2 := encs_len (l := sts l2 i2) (fun s hs => (hok2 s hs).2)
          rw [sts_len', hcl2] at hel2
          obtain ⟨a22, c22, rfl, hac22, _, hh22⟩ := Holds.of_own (w0 := w0) (H := HBb ++ []) hOb (fun p hp => List.mem_append_left _ hp)
          refine W_move rfl rfl ?_
          refine W_extract rfl rfl rfl ?_
          refine W_extract rfl rfl rfl ?_
          refine W_assign rfl rfl ?_
          refine W_assign rfl rfl ?_
          refine W_nil ?_
          refine W_seq ?_
          refine W_sr ?_
          refine W_move rfl rfl ?_
          refine W_bin rfl rfl b_neq rfl ?_
          rw [decide_eq_true (by exact hne1)]
          refine W_move rfl rfl ?_
          refine W_gno rfl rfl rfl ?_
          refine W_gno rfl rfl rfl ?_
          first | refine W_pickt rfl rfl rfl ?_ | refine W_pickf rfl rfl rfl ?_
          refine W_nil ?_
          refine W_condT rfl rfl ?_
          refine W_sr ?_
          refine W_callp .nil Try.call10 rfl (T := fun _ => True) trivial (known_pure ) ?_
          refine W_assign rfl rfl ?_
          refine W_nil ?_
          refine W_ret1m (H2 := H) Try.results5 rfl (.nil _) (by repeat (first | with_reducible exact HSub.refl _ | refine HSub.drop ?_ | refine HSub.dropS ?_)) ?_
          exact ⟨rfl, rfl⟩
      · skip
        have hok1 : ∀ s ∈ sts l1 i1, StOk s ∧ chk s = 0 := fun s hs => by
          obtain ⟨r, hr, rfl⟩ := sts_mem hs
          exact ⟨(cuts_ok (w0 := w0) (H := H) hg1 r hr).st, hall1 _ (List.mem_map.2 ⟨r, hr, rfl⟩)⟩
        have hOa : OwnS 5 1 sv1 (encs (sts l1 i1)).length (bytesV (encs (sts l1 i1))) HBa := by unfold sts; exact hOa
        have hel1 := encs_len (l := sts l1 i1) (fun s hs => (hok1 s hs).2)
        rw [sts_len', hcl1] at hel1
        obtain ⟨a11, c11, rfl, hac11, _, hh11⟩ := Holds.of_own (w0 := w0) (H := HBa ++ []) hOa (fun p hp => List.mem_append_left _ hp)
        refine W_move rfl rfl ?_
        refine W_extract rfl rfl rfl ?_
        refine W_extract rfl rfl rfl ?_
        refine W_assign rfl rfl ?_
        refine W_assign rfl rfl ?_
        refine W_nil ?_
        refine W_sr ?_
        refine W_move rfl rfl ?_
        refine W_call (.cons rfl .nil) Try.call15 rfl (bytes_L (l := cuts l2 i2) (by omega) (cuts_ok hg2) (hh2.up (by repeat (first | with_reducible exact HSub.refl _ | refine HSub.cons (by repeat (first | exact Take.here _ | apply Take.next | apply Take.app)) ?_ | refine HSub.app (by repeat (first | with_reducible exact TakeS.here _ | apply TakeS.next | apply TakeS.app)) ?_ | exact HSub.nil _ | exact HSub.refl _ | refine HSub.drop ?_ | refine HSub.dropS ?_)))) ?_
        rintro v H' (⟨e2, hF2, rfl, rfl⟩ | ⟨hall2, sv2, HBb, hOb, rfl, rfl⟩)
        · skip
          have hne2 := (wantL_first hF2).2
          refine W_move rfl rfl ?_
          refine W_extract rfl rfl rfl ?_
          refine W_extract rfl rfl rfl ?_
          refine W_assign rfl rfl ?_
          refine W_assign rfl rfl ?_
          refine W_nil ?_
          refine W_seq ?_
          refine W_sr ?_
          refine W_move rfl rfl ?_
          refine W_bin rfl rfl b_neq rfl ?_
          rw [decide_eq_false (by simp)]
          refine W_move rfl rfl ?_
          refine W_gyes rfl rfl ?_
          refine W_move rfl rfl ?_
          refine W_gyes rfl rfl ?_
          refine W_bin rfl rfl b_neq rfl ?_
          rw [decide_eq_true (by exact hne2)]
          first | refine W_pickt rfl rfl rfl ?_ | refine W_pickf rfl rfl rfl ?_
          refine W_nil ?_
          refine W_condT rfl rfl ?_
          refine W_sr ?_
          refine W_callp .nil Try.call10 rfl (T := fun _ => True) trivial (known_pure ) ?_
          refine W_assign rfl rfl ?_
          refine W_nil ?_
          refine W_ret1m (H2 := H) Try.results5 rfl (.nil _) (by repeat (first | with_reducible exact HSub.refl _ | refine HSub.drop ?_ | refine HSub.dropS ?_)) ?_
          exact ⟨rfl, rfl⟩
        · skip
          have hok2 : ∀ s ∈ sts l2 i2, StOk s ∧ chk s = 0 := fun s hs => by
            obtain ⟨r, hr, rfl⟩ := sts_mem hs
            exact ⟨(cuts_ok (w0 := w0) (H := H) hg2 r hr).st, hall2 _ (List.mem_map.2 ⟨r, hr, rfl⟩)⟩
          have hOb : OwnS 5 1 sv2 (encs (sts l2 i2)).length (bytesV (encs (sts l2 i2))) HBb := by unfold sts; exact hOb
          have hel2 := encs_len (l := sts l2 i2) (fun s hs => (hok2 s hs).2)
          rw [sts_len', hcl2] at hel2
          obtain ⟨a22, c22, rfl, hac22, _, hh22⟩ := Holds.of_own (w0 := w0) (H := HBb ++ []) hOb (fun p hp => List.mem_append_left _ hp)
          refine W_move rfl rfl ?_
          refine W_extract rfl rfl rfl ?_
          refine W_extract rfl rfl rfl ?_
          refine W_assign rfl rfl ?_
          refine W_assign rfl rfl ?_
          refine W_nil ?_
          refine W_seq ?_
          refine W_sr ?_
          refine W_move rfl rfl ?_
          refine W_bin rfl rfl b_neq rfl ?_
          rw [decide_eq_false (by simp)]
          refine W_move rfl rfl ?_
          refine W_gyes rfl rfl ?_
          refine W_move rfl rfl ?_
          refine W_gyes rfl rfl ?_
          refine W_bin rfl rfl b_neq rfl ?_
          rw [decide_eq_false (by simp)]
          first | refine W_pickt rfl rfl rfl ?_ | refine W_pickf rfl rfl rfl ?_
          refine W_nil ?_
          refine W_condF rfl rfl ?_
          refine W_skip ?_
          refine W_sr ?_
          refine W_move rfl rfl ?_
          refine W_bin rfl rfl (b_rem (by decide) (Int.tmod_eq_emod_of_nonneg hk.1)) rfl ?_
          refine W_bin rfl rfl (b_add (m := 18 + k % 200) (by rw [u8_wrap]; omega)) rfl ?_
          refine W_assign rfl rfl ?_
          refine W_nil ?_
          refine W_sr ?_
          refine W_move rfl rfl ?_
          refine W_move rfl rfl ?_
          refine W_len rfl ty22 rfl rfl ?_
          refine W_conv rfl ty3 ty5 (m := (bad.length : Int) % 256) (u8_wrap _) rfl ?_
          refine W_move rfl rfl ?_
          refine W_len rfl ty22 rfl rfl ?_
          refine W_bin rfl rfl (b_quo (m := (bad.length : Int) / 256) (by decide) (by rw [Int.tdiv_eq_ediv_of_nonneg (by omega)]; exact i64w (by omega))) rfl ?_
          refine W_conv rfl ty3 ty5 (m := (bad.length : Int) / 256 % 256) (u8_wrap _) rfl ?_
          refine W_buildSlice (l := bytesV ((18 + k % 200) :: lowL (bad.length : Nat) 2)) ty22 ty5 (.cons rfl rfl rfl rfl rfl (.cons rfl rfl rfl rfl rfl (.cons rfl rfl rfl rfl rfl .nil))) rfl rfl rfl rfl rfl rfl rfl (fun b93 => ?_)
          refine W_move rfl rfl ?_
          refine W_append (news := bytesV bad) (m := bad.length) (HB := [(b93, .cells 5 3 (bytesV ((18 + k % 200) :: lowL (bad.length : Nat) 2)))]) (H0 := HBb ++ (HBa ++ (XB2 ++ (XB1 ++ H)))) rfl rfl ty22 ty5 rfl (by decide) (OwnS.own (n := 3) (cap := 3) rfl (Nat.le_refl _) (by simp only [maxLen]; omega)) (by rw [bytesV_len, Nat.mul_one]) (hbrow.up (by repeat (first | with_reducible exact HSub.refl _ | refine HSub.cons (by repeat (first | exact Take.here _ | apply Take.next | apply Take.app)) ?_ | refine HSub.app (by repeat (first | with_reducible exact TakeS.here _ | apply TakeS.next | apply TakeS.app)) ?_ | exact HSub.nil _ | exact HSub.refl _ | refine HSub.drop ?_ | refine HSub.dropS ?_))) (bytesV_one _) (by simp only [maxLen]; omega) (by omega) (HSub.refl _) rfl (fun vo HBo hOo => ?_)
          rw [← bytesV_append] at hOo
          have hOo : OwnS 5 1 vo ((((18 + k % 200) :: lowL (bad.length : Nat) 2) ++ bad)).length (bytesV (((18 + k % 200) :: lowL (bad.length : Nat) 2) ++ bad)) HBo := by
            have e : ((((18 + k % 200) :: lowL (bad.length : Nat) 2) ++ bad)).length = 3 + bad.length := by rw [List.length_append, List.length_cons, lowL_len]
            rw [e]; exact hOo
          obtain ⟨ao, co, rfl, haco, _, hho⟩ := Holds.of_own (w0 := w0) (H := HBo ++ []) hOo (fun p hp => List.mem_append_left _ hp)
          refine W_assign rfl rfl ?_
          refine W_nil ?_
          refine W_sr ?_
          refine W_buildSlice (l := []) ty22 ty5 .nil rfl rfl rfl rfl rfl rfl rfl (fun b96 => ?_)
          refine W_move rfl rfl ?_
          refine W_append (news := bytesV (encs (sts l1 i1))) (m := (encs (sts l1 i1)).length) (HB := [(b96, .cells 5 0 [])]) (H0 := HBo ++ (HBb ++ (HBa ++ (XB2 ++ (XB1 ++ H))))) rfl rfl ty22 ty5 rfl (by decide) (OwnS.own (n := 0) (cap := 0) rfl (Nat.le_refl _) (Nat.zero_le _)) (by rw [bytesV_len, Nat.mul_one]) (hh11.up (by repeat (first | with_reducible exact HSub.refl _ | refine HSub.cons (by repeat (first | exact Take.here _ | apply Take.next | apply Take.app)) ?_ | refine HSub.app (by repeat (first | with_reducible exact TakeS.here _ | apply TakeS.next | apply TakeS.app)) ?_ | exact HSub.nil _ | exact HSub.refl _ | refine HSub.drop ?_ | refine HSub.dropS ?_))) (bytesV_one _) (by simp only [maxLen]; omega) (by omega) (HSub.refl _) rfl (fun vp HBp hOp => ?_)
          have hOp : OwnS 5 1 vp (encs (sts l1 i1)).length (bytesV (encs (sts l1 i1))) HBp := by simpa using hOp
          refine W_move rfl rfl ?_
          refine W_append (news := bytesV (((18 + k % 200) :: lowL (bad.length : Nat) 2) ++ bad)) (m := ((((18 + k % 200) :: lowL (bad.length : Nat) 2) ++ bad)).length) (HB := HBp) (H0 := HBo ++ (HBb ++ (HBa ++ (XB2 ++ (XB1 ++ H))))) rfl rfl ty22 ty5 rfl (by decide) hOp (by rw [bytesV_len, Nat.mul_one]) (hho.up (by repeat (first | with_reducible exact HSub.refl _ | refine HSub.cons (by repeat (first | exact Take.here _ | apply Take.next | apply Take.app)) ?_ | refine HSub.app (by repeat (first | with_reducible exact TakeS.here _ | apply TakeS.next | apply TakeS.app)) ?_ | exact HSub.nil _ | exact HSub.refl _ | refine HSub.drop ?_ | refine HSub.dropS ?_))) (bytesV_one _) (by simp only [maxLen, List.length_append, List.length_cons, lowL_len]; omega) (by simp only [List.length_append, List.length_cons, lowL_len]; omega) (by repeat (first | with_reducible exact HSub.refl _ | refine HSub.cons (by repeat (first | exact Take.here _ | apply Take.next | apply Take.app)) ?_ | refine HSub.app (by repeat (first | with_reducible exact TakeS.here _ | apply TakeS.next | apply TakeS.app)) ?_ | exact HSub.nil _ | exact HSub.refl _ | refine HSub.drop ?_ | refine HSub.dropS ?_)) rfl (fun vq HBq hOq => ?_)
          rw [← bytesV_append, ← List.length_append] at hOq
          refine W_move rfl rfl ?_
          refine W_append (news := bytesV (encs (sts l2 i2))) (m := (encs (sts l2 i2)).length) (HB := HBq) (H0 := HBo ++ (HBb ++ (HBa ++ (XB2 ++ (XB1 ++ H))))) rfl rfl ty22 ty5 rfl (by decide) hOq (by rw [bytesV_len, Nat.mul_one]) (hh22.up (by repeat (first | with_reducible exact HSub.refl _ | refine HSub.cons (by repeat (first | exact Take.here _ | apply Take.next | apply Take.app)) ?_ | refine HSub.app (by repeat (first | with_reducible exact TakeS.here _ | apply TakeS.next | apply TakeS.app)) ?_ | exact HSub.nil _ | exact HSub.refl _ | refine HSub.drop ?_ | refine HSub.dropS ?_))) (bytesV_one _) (by simp only [maxLen, List.length_append, List.length_cons, lowL_len]; omega) (by simp only [List.length_append, List.length_cons, lowL_len]; omega) (by repeat (first | with_reducible exact HSub.refl _ | refine HSub.cons (by repeat (first | exact Take.here _ | apply Take.next | apply Take.app)) ?_ | refine HSub.app (by repeat (first | with_reducible exact TakeS.here _ | apply TakeS.next | apply TakeS.app)) ?_ | exact HSub.nil _ | exact HSub.refl _ | refine HSub.drop ?_ | refine HSub.dropS ?_)) rfl (fun vr HBr hOr => ?_)
          rw [← bytesV_append, ← List.length_append] at hOr
          have hall_b : Go.Script.Bytes (encs (sts l1 i1) ++ (((18 + k % 200) :: lowL (bad.length : Nat) 2) ++ bad) ++ encs (sts l2 i2)) := bytes_app (bytes_app (encs_bytes hok1) (bytes_app (fun b hb => by rcases List.mem_cons.1 hb with rfl | hb; exact ⟨by omega, by omega⟩; exact lowL_bytes _ _ b hb) hbb)) (encs_bytes hok2)
          have hall_l : ((encs (sts l1 i1) ++ (((18 + k % 200) :: lowL (bad.length : Nat) 2) ++ bad) ++ encs (sts l2 i2))).length ≤ 100000 := by simp only [List.length_append, List.length_cons, lowL_len]; omega
          have hpb := parse_between (k := 18 + k % 200) (bad := bad) hok1 hok2 (by rw [← Bool.not_eq_true]; intro h; simp only [isK, Bool.and_eq_true, decide_eq_true_eq] at h; omega) (by omega)
          obtain ⟨ar, cr, rfl, hacr, _, hhr⟩ := Holds.of_own (w0 := w0) (H := HBr ++ []) hOr (fun p hp => List.mem_append_left _ hp)
          refine W_assign rfl rfl ?_
          refine W_nil ?_
          refine W_sr ?_
          refine W_move rfl rfl ?_
          refine W_call (.cons rfl .nil) Try.call7 rfl (parse_L (b := (encs (sts l1 i1) ++ (((18 + k % 200) :: lowL (bad.length : Nat) 2) ++ bad) ++ encs (sts l2 i2))) hall_b hall_l hacr (hhr.up (by repeat (first | with_reducible exact HSub.refl _ | refine HSub.cons (by repeat (first | exact Take.here _ | apply Take.next | apply Take.app)) ?_ | refine HSub.app (by repeat (first | with_reducible exact TakeS.here _ | apply TakeS.next | apply TakeS.app)) ?_ | exact HSub.nil _ | exact HSub.refl _ | refine HSub.drop ?_ | refine HSub.dropS ?_)))) ?_
          rintro v H' ⟨es, HB5, HX5, hes, hO5, hokE, rfl⟩
          obtain ⟨a5, c5, rfl, hac5, _, hh5⟩ := Holds.of_own (w0 := w0) (H := HB5 ++ []) hO5 (fun p hp => List.mem_append_left _ hp)
          rw [hpb] at hes
          obtain ⟨hm1, ⟨m, hm, hmen⟩, hmst⟩ := ents_mid hes (by show (11 : Int) ≠ 0; decide)
          rw [sts_len', sts_len', hcl1, hcl2] at hm1
          rw [sts_len', hcl1] at hm
          simp only [Er.en, En.mk.injEq] at hmen
          obtain ⟨hma, _, hme⟩ := hmen
          obtain ⟨q5, p5, rfl, hcm⟩ := hh5.row er_len (by decide) hm
          refine W_assign rfl rfl ?_
          refine W_nil ?_
          refine W_sr ?_
          refine W_move rfl rfl ?_
          refine W_call (.cons rfl .nil) Try.call16 rfl (steps_L es (by omega) (hh5.up (by repeat (first | with_reducible exact HSub.refl _ | refine HSub.cons (by repeat (first | exact Take.here _ | apply Take.next | apply Take.app)) ?_ | refine HSub.app (by repeat (first | with_reducible exact TakeS.here _ | apply TakeS.next | apply TakeS.app)) ?_ | exact HSub.nil _ | exact HSub.refl _ | refine HSub.drop ?_ | refine HSub.dropS ?_)))) ?_
          rintro v6 H' ⟨HB6, hO6, rfl⟩
          obtain ⟨a6, c6, rfl, hac6, _, hh6⟩ := Holds.of_own (w0 := w0) (H := HB6 ++ []) hO6 (fun p hp => List.mem_append_left _ hp)
          have hstl : (stepsOf es).length = i1 + i2 := by have := congrArg List.length hmst; rw [List.length_map, List.length_append, sts_len', sts_len', hcl1, hcl2] at this; exact this
          refine W_assign rfl rfl ?_
          refine W_nil ?_
          refine W_seq ?_
          refine W_sr ?_
          refine W_move rfl rfl ?_
          refine W_len rfl ty23 rfl rfl ?_
          refine W_move rfl rfl ?_
          refine W_len rfl ty40 rfl rfl ?_
          refine W_move rfl rfl ?_
          refine W_len rfl ty40 rfl rfl ?_
          refine W_bin rfl rfl (b_add (m := ((i1 + i2 : Nat) : Int)) ((i64w (by omega)).trans (by omega))) rfl ?_
          refine W_bin rfl rfl (b_add (m := ((i1 + i2 + 1 : Nat) : Int)) ((i64w (by omega)).trans (by omega))) rfl ?_
          refine W_bin rfl rfl b_neq rfl ?_
          rw [decide_eq_false (by rw [hm1]; simp)]
          refine W_move rfl rfl ?_
          refine W_gyes rfl rfl ?_
          refine W_move rfl rfl ?_
          refine W_gyes rfl rfl ?_
          refine W_len rfl ty40 rfl rfl ?_
          refine W_gyes rfl rfl ?_
          refine W_move rfl rfl ?_
          refine W_gyes rfl rfl ?_
          refine W_len rfl ty40 rfl rfl ?_
          refine W_gyes rfl rfl ?_
          refine W_move rfl rfl ?_
          refine W_gyes rfl rfl ?_
          refine W_len rfl ty40 rfl rfl ?_
          refine W_gyes rfl rfl ?_
          refine W_bin rfl rfl (b_add (m := ((i1 + i2 : Nat) : Int)) ((i64w (by omega)).trans (by omega))) rfl ?_
          refine W_gyes rfl rfl ?_
          refine W_bin rfl rfl b_neq rfl ?_
          rw [decide_eq_false (by rw [hstl]; simp)]
          first | refine W_pickt rfl rfl rfl ?_ | refine W_pickf rfl rfl rfl ?_
          refine W_move rfl rfl ?_
          refine W_gyes rfl rfl ?_
          refine W_move rfl rfl ?_
          refine W_gyes rfl rfl ?_
          refine W_move rfl rfl ?_
          refine W_gyes rfl rfl ?_
          refine W_len rfl ty40 rfl rfl ?_
          refine W_gyes rfl rfl ?_
          refine W_indexAddr (j := i1) rfl rfl ty23 ty32 (by rw [hcl1]) (by omega) rfl rfl ?_
          refine W_gyes rfl rfl ?_
          refine W_fieldAddr rfl fld32_2 (by decide) rfl ?_
          refine W_gyes rfl rfl ?_
          refine W_load rfl ty30 rfl (v := .int .i64 m.err) ((hcm 8 _ rfl).up (by repeat (first | with_reducible exact HSub.refl _ | refine HSub.cons (by repeat (first | exact Take.here _ | apply Take.next | apply Take.app)) ?_ | refine HSub.app (by repeat (first | with_reducible exact TakeS.here _ | apply TakeS.next | apply TakeS.app)) ?_ | exact HSub.nil _ | exact HSub.refl _ | refine HSub.drop ?_ | refine HSub.dropS ?_))) rfl ?_
          refine W_gyes rfl rfl ?_
          refine W_bin rfl rfl b_neq rfl ?_
          rw [decide_eq_false (by rw [hme]; simp)]
          first | refine W_pickt rfl rfl rfl ?_ | refine W_pickf rfl rfl rfl ?_
          refine W_move rfl rfl ?_
          refine W_gyes rfl rfl ?_
          refine W_move rfl rfl ?_
          refine W_gyes rfl rfl ?_
          refine W_move rfl rfl ?_
          refine W_gyes rfl rfl ?_
          refine W_len rfl ty40 rfl rfl ?_
          refine W_gyes rfl rfl ?_
          refine W_indexAddr (j := i1) rfl rfl ty23 ty32 (by rw [hcl1]) (by omega) rfl rfl ?_
          refine W_gyes rfl rfl ?_
          refine W_fieldAddr rfl fld32_0 (by decide) rfl ?_
          refine W_gyes rfl rfl ?_
          refine W_load rfl ty3 rfl (v := .int .i64 (m.at_ : Int)) ((hcm 0 _ rfl).up (by repeat (first | with_reducible exact HSub.refl _ | refine HSub.cons (by repeat (first | exact Take.here _ | apply Take.next | apply Take.app)) ?_ | refine HSub.app (by repeat (first | with_reducible exact TakeS.here _ | apply TakeS.next | apply TakeS.app)) ?_ | exact HSub.nil _ | exact HSub.refl _ | refine HSub.drop ?_ | refine HSub.dropS ?_))) rfl ?_
          refine W_gyes rfl rfl ?_
          refine W_move rfl rfl ?_
          refine W_gyes rfl rfl ?_
          refine W_len rfl ty22 rfl rfl ?_
          refine W_gyes rfl rfl ?_
          refine W_bin rfl rfl b_neq rfl ?_
          rw [decide_eq_false (by rw [hma]; simp)]
          first | refine W_pickt rfl rfl rfl ?_ | refine W_pickf rfl rfl rfl ?_
          refine W_nil ?_
          refine W_condF rfl rfl ?_
          refine W_skip ?_
          refine W_seq ?_
          refine W_sr ?_
          refine W_assign rfl rfl ?_
          refine W_nil ?_
          refine W_block ?_
          refine W_loopC (X := Nat) [(9, _), (10, _), (20, _)] (fun (j : Nat) => [(21, .int .i64 (j : Int))]) (fun _ => _) (fun _ => _) (fun (j : Nat) => j ≤ (stepsOf es).length) (fun (j : Nat) => (stepsOf es).length - j) 0 (Nat.zero_le _) (sub_cons rfl (sub_cons rfl (sub_cons rfl (sub_nil _)))) (sub_cons rfl (sub_nil _)) rfl (by repeat (first | with_reducible exact HSub.refl _ | refine HSub.cons (by repeat (first | exact Take.here _ | apply Take.next | apply Take.app)) ?_ | refine HSub.app (by repeat (first | with_reducible exact TakeS.here _ | apply TakeS.next | apply TakeS.app)) ?_ | exact HSub.nil _ | exact HSub.refl _ | refine HSub.drop ?_ | refine HSub.dropS ?_)) ?_
          intro j hj
          simp only [List.cons_append, List.nil_append]
          refine W_seq ?_
          refine W_sr ?_
          refine W_move rfl rfl ?_
          refine W_move rfl rfl ?_
          refine W_len rfl ty40 rfl rfl ?_
          refine W_bin rfl rfl b_lss rfl ?_
          by_cases hside : j < i1
          · skip
            refine W_nil ?_
            refine W_condPS (p := (j : Int) < ((stepsOf es).length : Int)) rfl (by simp) (fun c2 => ?_) (fun c2 => ?_)
            · skip
              refine W_skip ?_
              refine W_seq ?_
              refine W_block ?_
              refine W_quietsr (by kernel_rfl) (by decide +kernel) ?_
              obtain ⟨z, hz⟩ : ∃ z, (stepsOf es)[j]? = some z := ⟨_, List.getElem?_eq_getElem (by omega)⟩
              have hzs : ((stepsOf es).map Sr.st)[j]? = some z.st := by rw [List.getElem?_map, hz]; rfl
              rw [hmst] at hzs
              obtain ⟨q6, p6, rfl, hcz⟩ := hh6.row sr_len (by decide) hz
              obtain ⟨e0, he0, her⟩ := steps_mem (List.mem_of_getElem? hz)
              have hzo : ∀ {H'}, Sl.HSub H' HX5 → SrOk w0 H' z := fun hs => by rw [← her]; exact (hokE e0 he0).up hs
              refine WQ_x (X_move rfl) rfl ?_
              refine WQ_x (X_move rfl) rfl ?_
              refine WQ_x (X_len rfl ty40 rfl) rfl ?_
              refine WQ_x (X_bin rfl rfl b_lss) rfl ?_
              rw [hcl1]
              first | rw [decide_eq_true (show (j : Int) < (i1 : Int) by omega)] | rw [decide_eq_false (show ¬ (j : Int) < (i1 : Int) by omega)]
              refine WQ_x (X_move rfl) rfl ?_
              refine WQ_gyes rfl rfl ?_
              obtain ⟨y, hy⟩ : ∃ y, (cuts l1 i1)[j]? = some y := ⟨_, List.getElem?_eq_getElem (by omega)⟩
              obtain ⟨q7, p7, rfl, hcy⟩ := hh1.row sr_len (by decide) hy
              have hzy : z.st = y.st := by rw [List.getElem?_append_left (by rw [sts_len']; omega), sts_at hy] at hzs; exact (Option.some.inj hzs).symm
              refine WQ_x (X_move rfl) rfl ?_
              refine WQ_gyes rfl rfl ?_
              refine WQ_x (X_move rfl) rfl ?_
              refine WQ_gyes rfl rfl ?_
              refine WQ_x (X_indexAddr (j := j) rfl rfl ty40 ty29 rfl (by omega) rfl) rfl ?_
              refine WQ_gyes rfl rfl ?_
              refine WQ_x (X_loadA rfl ty29 rfl (vs := z.cells) rfl (hcz.up (by repeat (first | with_reducible exact HSub.refl _ | refine HSub.cons (by repeat (first | exact Take.here _ | apply Take.next | apply Take.app)) ?_ | refine HSub.app (by repeat (first | with_reducible exact TakeS.here _ | apply TakeS.next | apply TakeS.app)) ?_ | exact HSub.nil _ | exact HSub.refl _ | refine HSub.drop ?_ | refine HSub.dropS ?_)))) rfl ?_
              refine WQ_gyes rfl rfl ?_
              refine WQ_x (X_move rfl) rfl ?_
              refine WQ_gyes rfl rfl ?_
              refine WQ_x (X_move rfl) rfl ?_
              refine WQ_gyes rfl rfl ?_
              refine WQ_x (X_indexAddr (j := j) rfl rfl ty40 ty29 rfl (by omega) rfl) rfl ?_
              refine WQ_gyes rfl rfl ?_
              refine WQ_x (X_loadA rfl ty29 rfl (vs := y.cells) rfl (hcy.up (by repeat (first | with_reducible exact HSub.refl _ | refine HSub.cons (by repeat (first | exact Take.here _ | apply Take.next | apply Take.app)) ?_ | refine HSub.app (by repeat (first | with_reducible exact TakeS.here _ | apply TakeS.next | apply TakeS.app)) ?_ | exact HSub.nil _ | exact HSub.refl _ | refine HSub.drop ?_ | refine HSub.dropS ?_)))) rfl ?_
              refine WQ_gyes rfl rfl ?_
              refine WQ_callq (.cons rfl (.cons rfl .nil)) Try.call18 rfl (sameT_q hzy (hzo (by repeat (first | exact HSub.refl _ | exact hsub_left | refine HSub.dropS ?_ | refine HSub.drop ?_))) (cuts_ok hg1 _ (List.mem_of_getElem? hy))) ?_
              refine WQ_gyes rfl rfl ?_
              refine WQ_x (X_not rfl) rfl ?_
              first | refine WQ_x (X_pickt rfl rfl) rfl ?_ | refine WQ_x (X_pickf rfl rfl) rfl ?_
              refine WQ_x (X_move rfl) rfl ?_
              refine WQ_gyes rfl rfl ?_
              refine WQ_x (X_move rfl) rfl ?_
              refine WQ_gyes rfl rfl ?_
              refine WQ_x (X_move rfl) rfl ?_
              refine WQ_gyes rfl rfl ?_
              refine WQ_x (X_len rfl ty40 rfl) rfl ?_
              refine WQ_gyes rfl rfl ?_
              refine WQ_x (X_bin rfl rfl b_geq) rfl ?_
              try rw [hcl1]
              first | rw [decide_eq_true (show (i1 : Int) ≤ (j : Int) by omega)] | rw [decide_eq_false (show ¬ (i1 : Int) ≤ (j : Int) by omega)]
              refine WQ_gyes rfl rfl ?_
              refine WQ_x (X_move rfl) rfl ?_
              refine WQ_gno rfl rfl rfl rfl ?_
              refine WQ_gno rfl rfl rfl rfl ?_
              refine WQ_gno rfl rfl rfl rfl ?_
              refine WQ_gno rfl rfl rfl rfl ?_
              refine WQ_gno rfl rfl rfl rfl ?_
              refine WQ_gno rfl rfl rfl rfl ?_
              refine WQ_gno rfl rfl rfl rfl ?_
              refine WQ_gno rfl rfl rfl rfl ?_
              refine WQ_gno rfl rfl rfl rfl ?_
              refine WQ_gno rfl rfl rfl rfl ?_
              refine WQ_gno rfl rfl rfl rfl ?_
              refine WQ_gno rfl rfl rfl rfl ?_
              refine WQ_gno rfl rfl rfl rfl ?_
              refine WQ_gyes rfl rfl ?_
              first | refine WQ_x (X_pickt rfl rfl) rfl ?_ | refine WQ_x (X_pickf rfl rfl) rfl ?_
              first | refine WQ_x (X_pickt rfl rfl) rfl ?_ | refine WQ_x (X_pickf rfl rfl) rfl ?_
              refine WQ_nil ?_
              refine W_condF rfl rfl ?_
              refine W_skip ?_
              refine W_blk ?_
              refine W_region ?_
              refine W_move rfl rfl ?_
              refine W_bin rfl rfl (b_add (m := ((j + 1 : Nat) : Int)) ((i64w (by omega)).trans (by omega))) rfl ?_
              refine W_assign rfl rfl ?_
              refine W_nil ?_
              refine W_again (j + 1) (by omega) (by omega) (sub_cons rfl (sub_cons rfl (sub_cons rfl (sub_cons rfl (sub_nil _))))) rfl (by repeat (first | with_reducible exact HSub.refl _ | refine HSub.cons (by repeat (first | exact Take.here _ | apply Take.next | apply Take.app)) ?_ | refine HSub.app (by repeat (first | with_reducible exact TakeS.here _ | apply TakeS.next | apply TakeS.app)) ?_ | exact HSub.nil _ | exact HSub.refl _ | refine HSub.drop ?_ | refine HSub.dropS ?_))
            · skip
              refine W_exit rfl ?_
              refine W_sr ?_
              refine W_callp .nil Try.call10 rfl (T := fun _ => True) trivial (known_pure ) ?_
              refine W_assign rfl rfl ?_
              refine W_nil ?_
              refine W_ret1m (H2 := H) Try.results5 rfl (.nil _) (by repeat (first | with_reducible exact HSub.refl _ | refine HSub.drop ?_ | refine HSub.dropS ?_)) ?_
              exact ⟨rfl, rfl⟩
          · skip
            refine W_nil ?_
            refine W_condPS (p := (j : Int) < ((stepsOf es).length : Int)) rfl (by simp) (fun c2 => ?_) (fun c2 => ?_)
            · skip
              refine W_skip ?_
              refine W_seq ?_
              refine W_block ?_
              refine W_quietsr (by kernel_rfl) (by decide +kernel) ?_
              obtain ⟨z, hz⟩ : ∃ z, (stepsOf es)[j]? = some z := ⟨_, List.getElem?_eq_getElem (by omega)⟩
              have hzs : ((stepsOf es).map Sr.st)[j]? = some z.st := by rw [List.getElem?_map, hz]; rfl
              rw [hmst] at hzs
              obtain ⟨q6, p6, rfl, hcz⟩ := hh6.row sr_len (by decide) hz
              obtain ⟨e0, he0, her⟩ := steps_mem (List.mem_of_getElem? hz)
              have hzo : ∀ {H'}, Sl.HSub H' HX5 → SrOk w0 H' z := fun hs => by rw [← her]; exact (hokE e0 he0).up hs
              refine WQ_x (X_move rfl) rfl ?_
              refine WQ_x (X_move rfl) rfl ?_
              refine WQ_x (X_len rfl ty40 rfl) rfl ?_
              refine WQ_x (X_bin rfl rfl b_lss) rfl ?_
              rw [hcl1]
              first | rw [decide_eq_true (show (j : Int) < (i1 : Int) by omega)] | rw [decide_eq_false (show ¬ (j : Int) < (i1 : Int) by omega)]
              refine WQ_x (X_move rfl) rfl ?_
              refine WQ_gno rfl rfl rfl rfl ?_
              refine WQ_gno rfl rfl rfl rfl ?_
              refine WQ_gno rfl rfl rfl rfl ?_
              refine WQ_gno rfl rfl rfl rfl ?_
              refine WQ_gno rfl rfl rfl rfl ?_
              refine WQ_gno rfl rfl rfl rfl ?_
              refine WQ_gno rfl rfl rfl rfl ?_
              refine WQ_gno rfl rfl rfl rfl ?_
              refine WQ_gno rfl rfl rfl rfl ?_
              refine WQ_gno rfl rfl rfl rfl ?_
              first | refine WQ_x (X_pickt rfl rfl) rfl ?_ | refine WQ_x (X_pickf rfl rfl) rfl ?_
              refine WQ_x (X_move rfl) rfl ?_
              refine WQ_gyes rfl rfl ?_
              refine WQ_x (X_move rfl) rfl ?_
              refine WQ_gyes rfl rfl ?_
              refine WQ_x (X_move rfl) rfl ?_
              refine WQ_gyes rfl rfl ?_
              refine WQ_x (X_len rfl ty40 rfl) rfl ?_
              refine WQ_gyes rfl rfl ?_
              refine WQ_x (X_bin rfl rfl b_geq) rfl ?_
              try rw [hcl1]
              first | rw [decide_eq_true (show (i1 : Int) ≤ (j : Int) by omega)] | rw [decide_eq_false (show ¬ (i1 : Int) ≤ (j : Int) by omega)]
              refine WQ_gyes rfl rfl ?_
              refine WQ_x (X_move rfl) rfl ?_
              refine WQ_gyes rfl rfl ?_
              obtain ⟨y, hy⟩ : ∃ y, (cuts l2 i2)[j - i1]? = some y := ⟨_, List.getElem?_eq_getElem (by omega)⟩
              obtain ⟨q7, p7, rfl, hcy⟩ := hh2.row sr_len (by decide) hy
              have hzy : z.st = y.st := by rw [List.getElem?_append_right (by rw [sts_len']; omega), sts_len', hcl1, sts_at hy] at hzs; exact (Option.some.inj hzs).symm
              refine WQ_x (X_move rfl) rfl ?_
              refine WQ_gyes rfl rfl ?_
              refine WQ_x (X_move rfl) rfl ?_
              refine WQ_gyes rfl rfl ?_
              refine WQ_x (X_indexAddr (j := j) rfl rfl ty40 ty29 rfl (by omega) rfl) rfl ?_
              refine WQ_gyes rfl rfl ?_
              refine WQ_x (X_loadA rfl ty29 rfl (vs := z.cells) rfl (hcz.up (by repeat (first | with_reducible exact HSub.refl _ | refine HSub.cons (by repeat (first | exact Take.here _ | apply Take.next | apply Take.app)) ?_ | refine HSub.app (by repeat (first | with_reducible exact TakeS.here _ | apply TakeS.next | apply TakeS.app)) ?_ | exact HSub.nil _ | exact HSub.refl _ | refine HSub.drop ?_ | refine HSub.dropS ?_)))) rfl ?_
              refine WQ_gyes rfl rfl ?_
              refine WQ_x (X_move rfl) rfl ?_
              refine WQ_gyes rfl rfl ?_
              refine WQ_x (X_move rfl) rfl ?_
              refine WQ_gyes rfl rfl ?_
              refine WQ_x (X_move rfl) rfl ?_
              refine WQ_gyes rfl rfl ?_
              refine WQ_x (X_len rfl ty40 rfl) rfl ?_
              refine WQ_gyes rfl rfl ?_
              refine WQ_x (X_bin rfl rfl (b_sub (m := ((j - i1 : Nat) : Int)) ((i64w (by omega)).trans (by omega)))) rfl ?_
              refine WQ_gyes rfl rfl ?_
              refine WQ_x (X_indexAddr (j := j - i1) rfl rfl ty40 ty29 rfl (by omega) rfl) rfl ?_
              refine WQ_gyes rfl rfl ?_
              refine WQ_x (X_loadA rfl ty29 rfl (vs := y.cells) rfl (hcy.up (by repeat (first | with_reducible exact HSub.refl _ | refine HSub.cons (by repeat (first | exact Take.here _ | apply Take.next | apply Take.app)) ?_ | refine HSub.app (by repeat (first | with_reducible exact TakeS.here _ | apply TakeS.next | apply TakeS.app)) ?_ | exact HSub.nil _ | exact HSub.refl _ | refine HSub.drop ?_ | refine HSub.dropS ?_)))) rfl ?_
              refine WQ_gyes rfl rfl ?_
              refine WQ_callq (.cons rfl (.cons rfl .nil)) Try.call18 rfl (sameT_q hzy (hzo (by repeat (first | exact HSub.refl _ | exact hsub_left | refine HSub.dropS ?_ | refine HSub.drop ?_))) (cuts_ok hg2 _ (List.mem_of_getElem? hy))) ?_
              refine WQ_gyes rfl rfl ?_
              refine WQ_x (X_not rfl) rfl ?_
              refine WQ_gyes rfl rfl ?_
              first | refine WQ_x (X_pickt rfl rfl) rfl ?_ | refine WQ_x (X_pickf rfl rfl) rfl ?_
              first | refine WQ_x (X_pickt rfl rfl) rfl ?_ | refine WQ_x (X_pickf rfl rfl) rfl ?_
              refine WQ_nil ?_
              refine W_condF rfl rfl ?_
              refine W_skip ?_
              refine W_blk ?_
              refine W_region ?_
              refine W_move rfl rfl ?_
              refine W_bin rfl rfl (b_add (m := ((j + 1 : Nat) : Int)) ((i64w (by omega)).trans (by omega))) rfl ?_
              refine W_assign rfl rfl ?_
              refine W_nil ?_
              refine W_again (j + 1) (by omega) (by omega) (sub_cons rfl (sub_cons rfl (sub_cons rfl (sub_cons rfl (sub_nil _))))) rfl (by repeat (first | with_reducible exact HSub.refl _ | refine HSub.cons (by repeat (first | exact Take.here _ | apply Take.next | apply Take.app)) ?_ | refine HSub.app (by repeat (first | with_reducible exact TakeS.here _ | apply TakeS.next | apply TakeS.app)) ?_ | exact HSub.nil _ | exact HSub.refl _ | refine HSub.drop ?_ | refine HSub.dropS ?_))
            · skip
              refine W_exit rfl ?_
              refine W_sr ?_
              refine W_callp .nil Try.call10 rfl (T := fun _ => True) trivial (known_pure ) ?_
              refine W_assign rfl rfl ?_
              refine W_nil ?_
              refine W_ret1m (H2 := H) Try.results5 rfl (.nil _) (by repeat (first | with_reducible exact HSub.refl _ | refine HSub.drop ?_ | refine HSub.dropS ?_)) ?_
              exact ⟨rfl, rfl⟩
end Go.Proofs.Ytkhkagjbeilbgaa
