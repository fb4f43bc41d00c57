/-
  Own work: contracts of functions that the statement reaches, and plain facts on what they compute; each theorem says its conditions.
-/
import Derived.Test.YtkhkagjbeilbgaaS20
set_option linter.all false
set_option linter.unusedSimpArgs false
set_option linter.unusedVariables false
namespace Go.Proofs.Ytkhkagjbeilbgaa
open Go Go.Sl
attribute [local irreducible] W
open Go.Script

theorem one_first {r : Sr} {e : Int} (h : FirstE [r] e) : e = chk r.st ∧ chk r.st ≠ 0 := by
  obtain ⟨i, x, hx, he, hne, _⟩ := h
  match i, hx with
  | 0, hx => have : r = x := by simpa using hx
             subst this; exact ⟨he, hne⟩
  | i + 1, hx => simp at hx
theorem steps_ok1 {es : List Er} {b : List Int} (h : es.map Er.en = parse b) : ∀ s ∈ (stepsOf es).map Sr.st, chk s = 0 := fun s hs => by
  obtain ⟨r, hr, rfl⟩ := List.mem_map.1 hs
  obtain ⟨e, he, hf⟩ := List.mem_filterMap.1 hr
  by_cases h0 : e.err = 0
  · rw [if_pos h0] at hf; cases hf; exact (en_ok h he).2 h0
  · rw [if_neg h0] at hf; cases hf
theorem steps_mem {es : List Er} {r : Sr} (h : r ∈ stepsOf es) : ∃ e ∈ es, e.r = r := by
  obtain ⟨e, he, hf⟩ := List.mem_filterMap.1 h
  by_cases h0 : e.err = 0
  · rw [if_pos h0] at hf; cases hf; exact ⟨e, he, rfl⟩
  · rw [if_neg h0] at hf; cases hf
theorem whole_back {es : List Er} {b : List Int} (hb : Go.Script.Bytes b) (h : es.map Er.en = parse b) (hw : (es.all fun e => decide (e.err = 0)) = true) : b = encs ((stepsOf es).map Sr.st) := by
  have h0 : ∀ e ∈ es, e.err = 0 := fun e he => by simpa using List.all_eq_true.1 hw e he
  rw [steps_all h0, List.map_map]
  have h1 := parse_back hb (fun e he => by rw [← h] at he; obtain ⟨x, hx, rfl⟩ := List.mem_map.1 he; exact h0 x hx)
  rw [← h, List.map_map] at h1
  exact h1.symm
theorem all_snoc {es : List Er} {i : Nat} {x : Er} (h : es[i]? = some x) : ((es.take (i + 1)).all fun e => decide (e.err = 0)) = (((es.take i).all fun e => decide (e.err = 0)) && decide (x.err = 0)) := by
  rw [takeAt h, List.all_append]; simp
theorem encs_one (s : St) : encs [s] = enc s := by simp [encs]
theorem eq_iff_enc {s t : St} (hs : StOk s ∧ chk s = 0) (ht : StOk t ∧ chk t = 0) : (decide (s = t) == decide (encs [s] = encs [t])) = true := by
  rw [encs_one, encs_one]
  by_cases h : s = t
  · subst h; simp
  · rw [decide_eq_false h, decide_eq_false (fun e => h (enc_inj hs ht e))]; rfl
attribute [local irreducible] encs stepsOf enc chk parse
set_option maxHeartbeats 8000000 in
theorem scriptBack_pure {l : List Int} {ad : Option Addr} {cap : Nat} {r q : Sr} (hb : Go.Script.Bytes l) (hcap : l.length ≤ cap) (hr : StOk r.st) (hrc : r.st.raw.length ≤ r.cap) (hq : StOk q.st) (hqc : q.st.raw.length ≤ q.cap) : Pure Try.prog (fun w => InRow w ad (bytesV l) ∧ InRow w r.ad (bytesV r.st.raw) ∧ InRow w q.ad (bytesV q.st.raw)) 6 [.slice ad l.length cap, .agg r.cells.toArray, .agg q.cells.toArray] (.bool true) := by
  intro w0 H hT
  obtain ⟨hrow0, hr0, hq0⟩ := id hT
  clear hT
  have hrow : Holds w0 H ad (bytesV l) := Holds.old hrow0
  have hro : ∀ {H'}, SrOk w0 H' r.cut := Sr.cut_ok ⟨hr, Holds.old hr0⟩
  have hqo : ∀ {H'}, SrOk w0 H' q.cut := Sr.cut_ok ⟨hq, Holds.old hq0⟩
  obtain ⟨c, hc⟩ : ∃ c, c = l.take 1500 := ⟨_, rfl⟩
  have hcl : c.length = min l.length 1500 := by rw [hc, List.length_take, Nat.min_comm]
  have hcb : Go.Script.Bytes c := by rw [hc]; exact hb.take _
  have hcrow : Holds w0 H ad (bytesV c) := by rw [hc, bytesV_take]; exact hrow.take _
  refine L_enter Try.func6 rfl Try.ntmps6 rfl rfl ?_
  refine W_sr ?_
  refine W_box rfl rfl rfl (fun b4 => ?_)
  refine W_box rfl rfl rfl (fun b5 => ?_)
  refine W_assign rfl rfl ?_
  refine W_nil ?_
  refine W_sr ?_
  refine W_move rfl rfl ?_
  refine W_move rfl rfl ?_
  refine W_len rfl ty22 rfl rfl ?_
  refine W_min2 rfl rfl (m := (c.length : Int)) (by rw [hcl]; split <;> omega) rfl ?_
  refine W_slice0 (hh := c.length) rfl ty22 ty5 rfl ⟨_, rfl⟩ (by omega) rfl ?_
  refine W_assign rfl rfl ?_
  refine W_nil ?_
  refine W_sr ?_
  refine W_move rfl rfl ?_
  refine W_call (.cons rfl .nil) Try.call7 rfl (parse_L hcb (by omega) (by omega) (hcrow.up (by repeat (first | with_reducible exact HSub.refl _ | refine HSub.cons (by repeat (first | exact Take.here _ | apply Take.next | apply Take.app)) ?_ | refine HSub.app (by repeat (first | with_reducible exact TakeS.here _ | apply TakeS.next | apply TakeS.app)) ?_ | exact HSub.nil _ | exact HSub.refl _ | refine HSub.drop ?_ | refine HSub.dropS ?_)))) ?_
  rintro v H' ⟨es, HB1, HX1, hes, hO1, hok1, rfl⟩
  obtain ⟨a1, c1, rfl, hac1, _, hh1⟩ := Holds.of_own (w0 := w0) (H := HB1 ++ []) hO1 (fun p hp => List.mem_append_left _ hp)
  have hle : es.length ≤ 1500 := by have h1 := congrArg List.length hes; have h2 := parse_len c; rw [List.length_map] at h1; omega
  refine W_assign rfl rfl ?_
  refine W_nil ?_
  refine W_sr ?_
  refine W_assign rfl rfl ?_
  refine W_nil ?_
  refine W_seq ?_
  refine W_sr ?_
  refine W_assign rfl rfl ?_
  refine W_nil ?_
  refine W_block ?_
  refine W_loopC (X := Nat) [(0, _), (4, _), (5, _), (7, _)] (fun (i : Nat) => [(8, .bool ((es.take i).all fun e => decide (e.err = 0))), (9, .int .i64 (i : Int))]) (fun _ => _) (fun _ => _) (fun (i : Nat) => i ≤ es.length) (fun (i : Nat) => es.length - i) 0 (Nat.zero_le _) (sub_cons rfl (sub_cons rfl (sub_cons rfl (sub_cons rfl (sub_nil _))))) (sub_cons rfl (sub_cons rfl (sub_nil _))) rfl (by repeat (first | with_reducible exact HSub.refl _ | refine HSub.cons (by repeat (first | exact Take.here _ | apply Take.next | apply Take.app)) ?_ | refine HSub.app (by repeat (first | with_reducible exact TakeS.here _ | apply TakeS.next | apply TakeS.app)) ?_ | exact HSub.nil _ | exact HSub.refl _ | refine HSub.drop ?_ | refine HSub.dropS ?_)) ?_
  intro i hi
  simp only [List.cons_append, List.nil_append]
  refine W_seq ?_
  refine W_sr ?_
  refine W_move rfl rfl ?_
  refine W_move rfl rfl ?_
  refine W_len rfl ty23 rfl rfl ?_
  refine W_bin rfl rfl b_lss rfl ?_
  refine W_nil ?_
  refine W_condPS (p := (i : Int) < (es.length : Int)) rfl (by simp) (fun c0 => ?_) (fun c0 => ?_)
  · skip
    refine W_skip ?_
    refine W_seq ?_
    refine W_block ?_
    refine W_region ?_
    obtain ⟨x, hx⟩ : ∃ x, es[i]? = some x := ⟨_, List.getElem?_eq_getElem (by omega)⟩
    obtain ⟨q1, p1, rfl, hcx⟩ := hh1.row er_len (by decide) hx
    refine W_move rfl rfl ?_
    refine W_move rfl rfl ?_
    apply W_and
    iterate 4 exact rfl
    case h1 =>
      intro hg1
      refine W_gyes rfl rfl ?_
      refine W_move rfl rfl ?_
      refine W_gyes rfl rfl ?_
      refine W_move rfl rfl ?_
      refine W_gyes rfl rfl ?_
      refine W_indexAddr (j := i) rfl rfl ty23 ty32 (by first | rfl | omega) (by first | decide | omega | simp) rfl rfl ?_
      refine W_gyes rfl rfl ?_
      refine W_fieldAddr rfl fld32_2 (by decide) rfl ?_
      refine W_gyes rfl rfl ?_
      refine W_load rfl ty30 rfl (v := .int .i64 x.err) ((hcx 8 _ rfl).up (by repeat (first | with_reducible exact HSub.refl _ | refine HSub.cons (by repeat (first | exact Take.here _ | apply Take.next | apply Take.app)) ?_ | refine HSub.app (by repeat (first | with_reducible exact TakeS.here _ | apply TakeS.next | apply TakeS.app)) ?_ | exact HSub.nil _ | exact HSub.refl _ | refine HSub.drop ?_ | refine HSub.dropS ?_))) rfl ?_
      refine W_gyes rfl rfl ?_
      refine W_bin rfl rfl b_eql rfl ?_
      exact W_met rfl (by repeat (first | exact .refl | refine .cons rfl ?_))
    refine W_assign rfl rfl ?_
    refine W_nil ?_
    refine W_blk ?_
    refine W_region ?_
    refine W_move rfl rfl ?_
    refine W_bin rfl rfl (b_add (m := ((i + 1 : Nat) : Int)) ((i64w (by omega)).trans (by omega))) rfl ?_
    refine W_assign rfl rfl ?_
    refine W_nil ?_
    refine W_again (i + 1) (by omega) (by omega) (sub_cons (by rw [all_snoc hx]; rfl) (sub_cons rfl (sub_cons rfl (sub_cons rfl (sub_cons rfl (sub_cons rfl (sub_nil _))))))) rfl (by repeat (first | with_reducible exact HSub.refl _ | refine HSub.cons (by repeat (first | exact Take.here _ | apply Take.next | apply Take.app)) ?_ | refine HSub.app (by repeat (first | with_reducible exact TakeS.here _ | apply TakeS.next | apply TakeS.app)) ?_ | exact HSub.nil _ | exact HSub.refl _ | refine HSub.drop ?_ | refine HSub.dropS ?_))
  · skip
    refine W_exit rfl ?_
    refine W_sr ?_
    obtain rfl : i = es.length := by omega
    rw [List.take_length]
    refine W_move rfl rfl ?_
    refine W_call (.cons rfl .nil) Try.call16 rfl (steps_L es (by omega) (hh1.up (by repeat (first | with_reducible exact HSub.refl _ | refine HSub.cons (by repeat (first | exact Take.here _ | apply Take.next | apply Take.app)) ?_ | refine HSub.app (by repeat (first | with_reducible exact TakeS.here _ | apply TakeS.next | apply TakeS.app)) ?_ | exact HSub.nil _ | exact HSub.refl _ | refine HSub.drop ?_ | refine HSub.dropS ?_)))) ?_
    rintro v2 H' ⟨HB2, hO2, rfl⟩
    obtain ⟨a2, c2, rfl, hac2, _, hh2⟩ := Holds.of_own (w0 := w0) (H := HB2 ++ []) hO2 (fun p hp => List.mem_append_left _ hp)
    have hsl := steps_le es
    refine W_call (.cons rfl .nil) Try.call15 rfl (bytes_L (l := stepsOf es) (by omega) (fun x hx => by obtain ⟨e, he, rfl⟩ := steps_mem hx; exact (hok1 e he).up (by repeat (first | exact HSub.refl _ | exact hsub_left | refine HSub.dropS ?_ | refine HSub.drop ?_))) (hh2.up (by repeat (first | with_reducible exact HSub.refl _ | refine HSub.cons (by repeat (first | exact Take.here _ | apply Take.next | apply Take.app)) ?_ | refine HSub.app (by repeat (first | with_reducible exact TakeS.here _ | apply TakeS.next | apply TakeS.app)) ?_ | exact HSub.nil _ | exact HSub.refl _ | refine HSub.drop ?_ | refine HSub.dropS ?_)))) ?_
    rintro v H' (⟨e, hF, _, _⟩ | ⟨hall, sv, HB3, hO3, rfl, rfl⟩)
    · exact absurd hF (first_none (steps_ok1 hes))
    obtain ⟨a3, c3, rfl, hac3, _, hh3⟩ := Holds.of_own (w0 := w0) (H := HB3 ++ []) hO3 (fun p hp => List.mem_append_left _ hp)
    refine W_move rfl rfl ?_
    refine W_extract rfl rfl rfl ?_
    refine W_extract rfl rfl rfl ?_
    refine W_assign rfl rfl ?_
    refine W_assign rfl rfl ?_
    refine W_nil ?_
    refine W_seq ?_
    refine W_sr ?_
    refine W_move rfl rfl ?_
    refine W_bin rfl rfl b_neq rfl ?_
    rw [decide_eq_false (by simp)]
    refine W_move rfl rfl ?_
    refine W_gyes rfl rfl ?_
    refine W_move rfl rfl ?_
    refine W_gyes rfl rfl ?_
    refine W_move rfl rfl ?_
    apply W_and
    iterate 4 exact rfl
    case h1 =>
      intro hg4
      refine W_gyes rfl rfl ?_
      refine W_move rfl rfl ?_
      refine W_gyes rfl rfl ?_
      refine W_move rfl rfl ?_
      refine W_gyes rfl rfl ?_
      refine W_callq (.cons rfl (.cons rfl .nil)) Try.call17 rfl (same13_q (l := c) (m := encs ((stepsOf es).map Sr.st)) (by omega) (hcrow.up (by repeat (first | with_reducible exact HSub.refl _ | refine HSub.cons (by repeat (first | exact Take.here _ | apply Take.next | apply Take.app)) ?_ | refine HSub.app (by repeat (first | with_reducible exact TakeS.here _ | apply TakeS.next | apply TakeS.app)) ?_ | exact HSub.nil _ | exact HSub.refl _ | refine HSub.drop ?_ | refine HSub.dropS ?_))) (hh3.up (by repeat (first | with_reducible exact HSub.refl _ | refine HSub.cons (by repeat (first | exact Take.here _ | apply Take.next | apply Take.app)) ?_ | refine HSub.app (by repeat (first | with_reducible exact TakeS.here _ | apply TakeS.next | apply TakeS.app)) ?_ | exact HSub.nil _ | exact HSub.refl _ | refine HSub.drop ?_ | refine HSub.dropS ?_)))) ?_
      refine W_gyes rfl rfl ?_
      refine W_not rfl rfl ?_
      exact W_met rfl (by repeat (first | exact .refl | refine .cons rfl ?_))
    first | refine W_pickt rfl rfl rfl ?_ | refine W_pickf rfl rfl rfl ?_
    refine W_nil ?_
    refine W_condF rfl (by cases hw : (es.all fun e => decide (e.err = 0)) with
      | false => rfl
      | true => rw [decide_eq_true (whole_back hcb hes hw)]; rfl) ?_
    refine W_skip ?_
    refine W_sr ?_
    refine W_loadB rfl ty33 rfl (by repeat (first | exact List.mem_cons_self | apply List.mem_cons_of_mem | apply List.mem_append_right)) rfl (vs := r.cells) rfl rfl ?_
    refine W_callp (.cons rfl .nil) Try.call11 rfl (T := fun _ => True) trivial (cut_pure _ hrc) ?_
    refine W_callp (.cons rfl .nil) Try.call12 rfl (T := fun _ => True) trivial (to_pure _) ?_
    refine W_buildSlice (l := srRow [r.cut]) ty40 ty29 (.cons rfl rfl rfl rfl rfl .nil) rfl rfl rfl rfl rfl rfl rfl (fun b59 => ?_)
    refine W_call (.cons rfl .nil) Try.call15 rfl (bytes_L (l := [r.cut]) (by simp) (fun x hx => by simp at hx; subst hx; exact hro) (Holds.own List.mem_cons_self)) ?_
    rintro v H' (⟨e1, hF1, rfl, rfl⟩ | ⟨hall1, sv1, HBa, hOa, rfl, rfl⟩)
    · skip
      obtain ⟨he1, hne1⟩ := one_first hF1
      refine W_move rfl rfl ?_
      refine W_extract rfl rfl rfl ?_
      refine W_extract rfl rfl rfl ?_
      refine W_assign rfl rfl ?_
      refine W_assign rfl rfl ?_
      refine W_nil ?_
      refine W_sr ?_
      refine W_loadB rfl ty33 rfl (by repeat (first | exact List.mem_cons_self | apply List.mem_cons_of_mem | apply List.mem_append_right)) rfl (vs := q.cells) rfl rfl ?_
      refine W_callp (.cons rfl .nil) Try.call11 rfl (T := fun _ => True) trivial (cut_pure _ hqc) ?_
      refine W_callp (.cons rfl .nil) Try.call12 rfl (T := fun _ => True) trivial (to_pure _) ?_
      refine W_buildSlice (l := srRow [q.cut]) ty40 ty29 (.cons rfl rfl rfl rfl rfl .nil) rfl rfl rfl rfl rfl rfl rfl (fun b67 => ?_)
      refine W_call (.cons rfl .nil) Try.call15 rfl (bytes_L (l := [q.cut]) (by simp) (fun x hx => by simp at hx; subst hx; exact hqo) (Holds.own List.mem_cons_self)) ?_
      rintro v H' (⟨e2, hF2, rfl, rfl⟩ | ⟨hall2, sv2, HBb, hOb, rfl, rfl⟩)
      · skip
        obtain ⟨he2, hne2⟩ := one_first hF2
        refine W_move rfl rfl ?_
        refine W_extract rfl rfl rfl ?_
        refine W_extract rfl rfl rfl ?_
        refine W_assign rfl rfl ?_
        refine W_assign rfl rfl ?_
        refine W_nil ?_
        refine W_seq ?_
        refine W_sr ?_
        refine W_move rfl rfl ?_
        refine W_bin rfl rfl b_neq rfl ?_
        rw [decide_eq_true (by rw [he1]; exact hne1)]
        refine W_move rfl rfl ?_
        refine W_gno rfl rfl rfl ?_
        refine W_gno rfl rfl rfl ?_
        first | refine W_pickt rfl rfl rfl ?_ | refine W_pickf rfl rfl rfl ?_
        refine W_nil ?_
        refine W_condT rfl rfl ?_
        refine W_sr ?_
        refine W_callp .nil Try.call10 rfl (T := fun _ => True) trivial (known_pure ) ?_
        refine W_move rfl rfl ?_
        refine W_gyes rfl rfl ?_
        refine W_move rfl rfl ?_
        refine W_gyes rfl rfl ?_
        refine W_loadB rfl ty33 rfl (by repeat (first | exact List.mem_cons_self | apply List.mem_cons_of_mem | apply List.mem_append_right)) rfl (vs := r.cells) rfl rfl ?_
        refine W_gyes rfl rfl ?_
        refine W_callp (.cons rfl .nil) Try.call11 rfl (T := fun _ => True) trivial (cut_pure _ hrc) ?_
        refine W_gyes rfl rfl ?_
        refine W_callp (.cons rfl .nil) Try.call12 rfl (T := fun _ => True) trivial (to_pure _) ?_
        refine W_gyes rfl rfl ?_
        refine W_callp (.cons rfl .nil) Try.call19 rfl (T := fun _ => True) trivial (check_pure _ _ _) ?_
        refine W_gyes rfl rfl ?_
        refine W_bin rfl rfl b_eql rfl ?_
        rw [decide_eq_true he1]
        first | refine W_pickt rfl rfl rfl ?_ | refine W_pickf rfl rfl rfl ?_
        refine W_assign rfl rfl ?_
        refine W_nil ?_
        refine W_ret1m (H2 := H) Try.results6 rfl (.nil _) (by repeat (first | with_reducible exact HSub.refl _ | refine HSub.cons (by repeat (first | exact Take.here _ | apply Take.next | apply Take.app)) ?_ | refine HSub.app (by repeat (first | with_reducible exact TakeS.here _ | apply TakeS.next | apply TakeS.app)) ?_ | exact HSub.nil _ | exact HSub.refl _ | refine HSub.drop ?_ | refine HSub.dropS ?_)) ?_
        exact ⟨rfl, rfl⟩
      · skip
        have hk2 : chk q.cut.st = 0 := hall2 _ List.mem_cons_self
        obtain ⟨a22, c22, rfl, hac22, _, hh22⟩ := Holds.of_own (w0 := w0) (H := HBb ++ []) hOb (fun p hp => List.mem_append_left _ hp)
        refine W_move rfl rfl ?_
        refine W_extract rfl rfl rfl ?_
        refine W_extract rfl rfl rfl ?_
        refine W_assign rfl rfl ?_
        refine W_assign rfl rfl ?_
        refine W_nil ?_
        refine W_seq ?_
        refine W_sr ?_
        refine W_move rfl rfl ?_
        refine W_bin rfl rfl b_neq rfl ?_
        rw [decide_eq_true (by rw [he1]; exact hne1)]
        refine W_move rfl rfl ?_
        refine W_gno rfl rfl rfl ?_
        refine W_gno rfl rfl rfl ?_
        first | refine W_pickt rfl rfl rfl ?_ | refine W_pickf rfl rfl rfl ?_
        refine W_nil ?_
        refine W_condT rfl rfl ?_
        refine W_sr ?_
        refine W_callp .nil Try.call10 rfl (T := fun _ => True) trivial (known_pure ) ?_
        refine W_move rfl rfl ?_
        refine W_gyes rfl rfl ?_
        refine W_move rfl rfl ?_
        refine W_gyes rfl rfl ?_
        refine W_loadB rfl ty33 rfl (by repeat (first | exact List.mem_cons_self | apply List.mem_cons_of_mem | apply List.mem_append_right)) rfl (vs := r.cells) rfl rfl ?_
        refine W_gyes rfl rfl ?_
        refine W_callp (.cons rfl .nil) Try.call11 rfl (T := fun _ => True) trivial (cut_pure _ hrc) ?_
        refine W_gyes rfl rfl ?_
        refine W_callp (.cons rfl .nil) Try.call12 rfl (T := fun _ => True) trivial (to_pure _) ?_
        refine W_gyes rfl rfl ?_
        refine W_callp (.cons rfl .nil) Try.call19 rfl (T := fun _ => True) trivial (check_pure _ _ _) ?_
        refine W_gyes rfl rfl ?_
        refine W_bin rfl rfl b_eql rfl ?_
        rw [decide_eq_true he1]
        first | refine W_pickt rfl rfl rfl ?_ | refine W_pickf rfl rfl rfl ?_
        refine W_assign rfl rfl ?_
        refine W_nil ?_
        refine W_ret1m (H2 := H) Try.results6 rfl (.nil _) (by repeat (first | with_reducible exact HSub.refl _ | refine HSub.cons (by repeat (first | exact Take.here _ | apply Take.next | apply Take.app)) ?_ | refine HSub.app (by repeat (first | with_reducible exact TakeS.here _ | apply TakeS.next | apply TakeS.app)) ?_ | exact HSub.nil _ | exact HSub.refl _ | refine HSub.drop ?_ | refine HSub.dropS ?_)) ?_
        exact ⟨rfl, rfl⟩
    · skip
      have hk1 : chk r.cut.st = 0 := hall1 _ List.mem_cons_self
      obtain ⟨a11, c11, rfl, hac11, _, hh11⟩ := Holds.of_own (w0 := w0) (H := HBa ++ []) hOa (fun p hp => List.mem_append_left _ hp)
      refine W_move rfl rfl ?_
      refine W_extract rfl rfl rfl ?_
      refine W_extract rfl rfl rfl ?_
      refine W_assign rfl rfl ?_
      refine W_assign rfl rfl ?_
      refine W_nil ?_
      refine W_sr ?_
      refine W_loadB rfl ty33 rfl (by repeat (first | exact List.mem_cons_self | apply List.mem_cons_of_mem | apply List.mem_append_right)) rfl (vs := q.cells) rfl rfl ?_
      refine W_callp (.cons rfl .nil) Try.call11 rfl (T := fun _ => True) trivial (cut_pure _ hqc) ?_
      refine W_callp (.cons rfl .nil) Try.call12 rfl (T := fun _ => True) trivial (to_pure _) ?_
      refine W_buildSlice (l := srRow [q.cut]) ty40 ty29 (.cons rfl rfl rfl rfl rfl .nil) rfl rfl rfl rfl rfl rfl rfl (fun b67 => ?_)
      refine W_call (.cons rfl .nil) Try.call15 rfl (bytes_L (l := [q.cut]) (by simp) (fun x hx => by simp at hx; subst hx; exact hqo) (Holds.own List.mem_cons_self)) ?_
      rintro v H' (⟨e2, hF2, rfl, rfl⟩ | ⟨hall2, sv2, HBb, hOb, rfl, rfl⟩)
      · skip
        obtain ⟨he2, hne2⟩ := one_first hF2
        refine W_move rfl rfl ?_
        refine W_extract rfl rfl rfl ?_
        refine W_extract rfl rfl rfl ?_
        refine W_assign rfl rfl ?_
        refine W_assign rfl rfl ?_
        refine W_nil ?_
        refine W_seq ?_
        refine W_sr ?_
        refine W_move rfl rfl ?_
        refine W_bin rfl rfl b_neq rfl ?_
        rw [decide_eq_false (by simp)]
        refine W_move rfl rfl ?_
        refine W_gyes rfl rfl ?_
        refine W_move rfl rfl ?_
        refine W_gyes rfl rfl ?_
        refine W_bin rfl rfl b_neq rfl ?_
        rw [decide_eq_true (by rw [he2]; exact hne2)]
        first | refine W_pickt rfl rfl rfl ?_ | refine W_pickf rfl rfl rfl ?_
        refine W_nil ?_
        refine W_condT rfl rfl ?_
        refine W_sr ?_
        refine W_callp .nil Try.call10 rfl (T := fun _ => True) trivial (known_pure ) ?_
        refine W_move rfl rfl ?_
        refine W_gyes rfl rfl ?_
        refine W_move rfl rfl ?_
        refine W_gyes rfl rfl ?_
        refine W_loadB rfl ty33 rfl (by repeat (first | exact List.mem_cons_self | apply List.mem_cons_of_mem | apply List.mem_append_right)) rfl (vs := r.cells) rfl rfl ?_
        refine W_gyes rfl rfl ?_
        refine W_callp (.cons rfl .nil) Try.call11 rfl (T := fun _ => True) trivial (cut_pure _ hrc) ?_
        refine W_gyes rfl rfl ?_
        refine W_callp (.cons rfl .nil) Try.call12 rfl (T := fun _ => True) trivial (to_pure _) ?_
        refine W_gyes rfl rfl ?_
        refine W_callp (.cons rfl .nil) Try.call19 rfl (T := fun _ => True) trivial (check_pure _ _ _) ?_
        refine W_gyes rfl rfl ?_
        refine W_bin rfl rfl b_eql rfl ?_
        rw [decide_eq_true hk1.symm]
        first | refine W_pickt rfl rfl rfl ?_ | refine W_pickf rfl rfl rfl ?_
        refine W_assign rfl rfl ?_
        refine W_nil ?_
        refine W_ret1m (H2 := H) Try.results6 rfl (.nil _) (by repeat (first | with_reducible exact HSub.refl _ | refine HSub.cons (by repeat (first | exact Take.here _ | apply Take.next | apply Take.app)) ?_ | refine HSub.app (by repeat (first | with_reducible exact TakeS.here _ | apply TakeS.next | apply TakeS.app)) ?_ | exact HSub.nil _ | exact HSub.refl _ | refine HSub.drop ?_ | refine HSub.dropS ?_)) ?_
        exact ⟨rfl, rfl⟩
      · skip
        have hk2 : chk q.cut.st = 0 := hall2 _ List.mem_cons_self
        obtain ⟨a22, c22, rfl, hac22, _, hh22⟩ := Holds.of_own (w0 := w0) (H := HBb ++ []) hOb (fun p hp => List.mem_append_left _ hp)
        refine W_move rfl rfl ?_
        refine W_extract rfl rfl rfl ?_
        refine W_extract rfl rfl rfl ?_
        refine W_assign rfl rfl ?_
        refine W_assign rfl rfl ?_
        refine W_nil ?_
        refine W_seq ?_
        refine W_sr ?_
        refine W_move rfl rfl ?_
        refine W_bin rfl rfl b_neq rfl ?_
        rw [decide_eq_false (by simp)]
        refine W_move rfl rfl ?_
        refine W_gyes rfl rfl ?_
        refine W_move rfl rfl ?_
        refine W_gyes rfl rfl ?_
        refine W_bin rfl rfl b_neq rfl ?_
        rw [decide_eq_false (by simp)]
        first | refine W_pickt rfl rfl rfl ?_ | refine W_pickf rfl rfl rfl ?_
        refine W_nil ?_
        refine W_condF rfl rfl ?_
        refine W_skip ?_
        refine W_quietsr (by kernel_rfl) (by decide +kernel) ?_
        refine WQ_callp .nil Try.call10 rfl (T := fun _ => True) trivial (known_pure ) ?_
        refine WQ_x (X_move rfl) rfl ?_
        refine WQ_gyes rfl rfl ?_
        refine WQ_x (X_loadB rfl ty33 rfl (by repeat (first | exact List.mem_cons_self | apply List.mem_cons_of_mem | apply List.mem_append_right)) rfl (vs := r.cells) rfl) rfl ?_
        refine WQ_gyes rfl rfl ?_
        refine WQ_callp (.cons rfl .nil) Try.call11 rfl (T := fun _ => True) trivial (cut_pure _ hrc) ?_
        refine WQ_gyes rfl rfl ?_
        refine WQ_callp (.cons rfl .nil) Try.call12 rfl (T := fun _ => True) trivial (to_pure _) ?_
        refine WQ_gyes rfl rfl ?_
        refine WQ_x (X_loadB rfl ty33 rfl (by repeat (first | exact List.mem_cons_self | apply List.mem_cons_of_mem | apply List.mem_append_right)) rfl (vs := q.cells) rfl) rfl ?_
        refine WQ_gyes rfl rfl ?_
        refine WQ_callp (.cons rfl .nil) Try.call11 rfl (T := fun _ => True) trivial (cut_pure _ hqc) ?_
        refine WQ_gyes rfl rfl ?_
        refine WQ_callp (.cons rfl .nil) Try.call12 rfl (T := fun _ => True) trivial (to_pure _) ?_
        refine WQ_gyes rfl rfl ?_
        refine WQ_callq (.cons rfl (.cons rfl .nil)) Try.call18 rfl (same_q hro hqo) ?_
        refine WQ_gyes rfl rfl ?_
        refine WQ_x (X_move rfl) rfl ?_
        refine WQ_gyes rfl rfl ?_
        refine WQ_x (X_move rfl) rfl ?_
        refine WQ_gyes rfl rfl ?_
        refine WQ_callq (.cons rfl (.cons rfl .nil)) Try.call17 rfl (same13_q (l := encs [r.cut.st]) (m := encs [q.cut.st]) (by rw [encs_one, enc_len3]; have := encB_len hk1; omega) (hh11.up (by repeat (first | with_reducible exact HSub.refl _ | refine HSub.cons (by repeat (first | exact Take.here _ | apply Take.next | apply Take.app)) ?_ | refine HSub.app (by repeat (first | with_reducible exact TakeS.here _ | apply TakeS.next | apply TakeS.app)) ?_ | exact HSub.nil _ | exact HSub.refl _ | refine HSub.drop ?_ | refine HSub.dropS ?_))) (hh22.up (by repeat (first | with_reducible exact HSub.refl _ | refine HSub.cons (by repeat (first | exact Take.here _ | apply Take.next | apply Take.app)) ?_ | refine HSub.app (by repeat (first | with_reducible exact TakeS.here _ | apply TakeS.next | apply TakeS.app)) ?_ | exact HSub.nil _ | exact HSub.refl _ | refine HSub.drop ?_ | refine HSub.dropS ?_)))) ?_
        refine WQ_gyes rfl rfl ?_
        refine WQ_x (X_beq rfl rfl ty4) rfl ?_
        rw [eq_iff_enc ⟨(hro (H' := [])).st, hk1⟩ ⟨(hqo (H' := [])).st, hk2⟩]
        first | refine WQ_x (X_pickt rfl rfl) rfl ?_ | refine WQ_x (X_pickf rfl rfl) rfl ?_
        refine WQ_x (X_assign rfl) rfl ?_
        refine WQ_nil ?_
        refine W_ret1m (H2 := H) Try.results6 rfl (.nil _) (by repeat (first | with_reducible exact HSub.refl _ | refine HSub.cons (by repeat (first | exact Take.here _ | apply Take.next | apply Take.app)) ?_ | refine HSub.app (by repeat (first | with_reducible exact TakeS.here _ | apply TakeS.next | apply TakeS.app)) ?_ | exact HSub.nil _ | exact HSub.refl _ | refine HSub.drop ?_ | refine HSub.dropS ?_)) ?_
        exact ⟨rfl, rfl⟩
end Go.Proofs.Ytkhkagjbeilbgaa
