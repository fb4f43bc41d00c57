/-
  Own work: contracts of functions that the statement reaches, and plain facts on what they compute; each theorem says its conditions.
-/
import Derived.Test.YtkhkagjbeilbgaaS17
import Derived.Test.YtkhkagjbeilbgaaSlArgs
set_option linter.all false
set_option linter.unusedSimpArgs false
set_option linter.unusedVariables false
namespace Go.Proofs.Ytkhkagjbeilbgaa
open Go Go.Sl
attribute [local irreducible] W
open Go.Script

theorem Cells.within {w0 : World} {H : Heap} {b i j : Nat} {vs us : List Value} (h : Cells w0 H b i vs) (hl : (vs.drop j).take us.length = us) : Cells w0 H b (i + j) us := fun k v hv => by
  have hk := (List.getElem?_eq_some_iff.1 hv).1
  rw [← hl, List.getElem?_take_of_lt hk, List.getElem?_drop] at hv
  have := h _ _ hv
  rwa [← Nat.add_assoc] at this
theorem one_ok (k : Int) (b : List Int) : (one k b).1.raw.length ≤ 512 ∧ ((one k b).2 = 0 → chk (one k b).1 = 0) := by
  unfold one
  split
  · exact ⟨Nat.zero_le _, fun h => by cases h⟩
  · split
    · exact ⟨Nat.zero_le _, fun h => by cases h⟩
    · simp only
      split
      · rename_i h; exact ⟨(len_chk h).2.1, fun _ => h⟩
      · rename_i h; exact ⟨Nat.zero_le _, fun e => absurd e h⟩
theorem parseF_ok : ∀ (f a : Nat) (b : List Int), ∀ e ∈ parseF f a b, e.st.raw.length ≤ 512 ∧ (e.err = 0 → chk e.st = 0)
  | 0, _, _ => fun e he => by cases he
  | f + 1, a, b => fun e he => by
    unfold parseF at he
    split at he
    · cases he
    · split at he
      · simp at he; subst he; exact ⟨Nat.zero_le _, fun h => by cases h⟩
      · simp only at he
        split at he
        · simp at he; subst he; exact ⟨Nat.zero_le _, fun h => by cases h⟩
        · rcases List.mem_cons.1 he with rfl | he
          · exact one_ok _ _
          · exact parseF_ok f _ _ e he
theorem parse_ok (b : List Int) : ∀ e ∈ parse b, e.st.raw.length ≤ 512 ∧ (e.err = 0 → chk e.st = 0) := parseF_ok _ _ _
theorem en_at {es fs : List Er} (h : es.map Er.en = fs.map Er.en) {i : Nat} {x y : Er} (hx : es[i]? = some x) (hy : fs[i]? = some y) : x.at_ = y.at_ ∧ x.r.st = y.r.st ∧ x.err = y.err := by
  have h1 : (es.map Er.en)[i]? = some x.en := by simp [hx]
  rw [h] at h1
  simp [hy] at h1
  simp only [Er.en, En.mk.injEq] at h1
  exact ⟨h1.1.symm, h1.2.1.symm, h1.2.2.symm⟩
theorem en_ok {es : List Er} {b : List Int} (h : es.map Er.en = parse b) {x : Er} (hx : x ∈ es) : x.r.st.raw.length ≤ 512 ∧ (x.err = 0 → chk x.r.st = 0) :=
  parse_ok b x.en (by rw [← h]; exact List.mem_map.2 ⟨x, hx, rfl⟩)
set_option maxHeartbeats 4000000 in
theorem scriptReads_pure {l : List Int} {ad : Option Addr} {cap : Nat} (hb : Go.Script.Bytes l) (hcap : l.length ≤ cap) : Pure Try.prog (fun w => InRow w ad (bytesV l)) 3 [.slice ad l.length cap] (.bool true) := by
  intro w0 H hT
  have hrow : Holds w0 H ad (bytesV l) := Holds.old hT
  clear hT
  obtain ⟨c, hc⟩ : ∃ c, c = l.take 1500 := ⟨_, rfl⟩
  have hcl : c.length = min l.length 1500 := by rw [hc, List.length_take, Nat.min_comm]
  have hcb : Go.Script.Bytes c := by rw [hc]; exact hb.take _
  have hcrow : Holds w0 H ad (bytesV c) := by rw [hc, bytesV_take]; exact hrow.take _
  refine L_enter Try.func3 rfl Try.ntmps3 rfl rfl ?_
  refine W_sr ?_
  refine W_assign rfl rfl ?_
  refine W_nil ?_
  refine W_sr ?_
  refine W_move rfl rfl ?_
  refine W_move rfl rfl ?_
  refine W_len rfl ty22 rfl rfl ?_
  refine W_min2 rfl rfl (m := (c.length : Int)) (by rw [hcl]; split <;> omega) rfl ?_
  refine W_slice0 (hh := c.length) rfl ty22 ty5 rfl ⟨_, rfl⟩ (by omega) rfl ?_
  refine W_assign rfl rfl ?_
  refine W_nil ?_
  refine W_sr ?_
  refine W_move rfl rfl ?_
  refine W_call (.cons rfl .nil) Try.call7 rfl (parse_L hcb (by omega) (by omega) (hcrow.up (by repeat (first | exact HSub.refl _ | refine HSub.cons (by repeat (first | exact Take.here _ | apply Take.next | apply Take.app)) ?_ | refine HSub.app (by repeat (first | exact TakeS.here _ | apply TakeS.next | apply TakeS.app)) ?_ | refine HSub.drop ?_ | refine HSub.dropS ?_ | exact HSub.nil _)))) ?_
  rintro v H' ⟨es, HB1, HX1, hes, hO1, hok1, rfl⟩
  obtain ⟨a1, c1, rfl, _, _, hh1⟩ := Holds.of_own (w0 := w0) (H := HB1 ++ []) hO1 (fun p hp => List.mem_append_left _ hp)
  refine W_move rfl rfl ?_
  refine W_call (.cons rfl .nil) Try.call8 rfl (rparse_L hcb (by omega) (by omega) (hcrow.up (by repeat (first | exact HSub.refl _ | refine HSub.cons (by repeat (first | exact Take.here _ | apply Take.next | apply Take.app)) ?_ | refine HSub.app (by repeat (first | exact TakeS.here _ | apply TakeS.next | apply TakeS.app)) ?_ | refine HSub.drop ?_ | refine HSub.dropS ?_ | exact HSub.nil _)))) ?_
  rintro v H' ⟨fs, HB2, HX2, hfs, hO2, hok2, rfl⟩
  obtain ⟨a2, c2, rfl, _, _, hh2⟩ := Holds.of_own (w0 := w0) (H := HB2 ++ []) hO2 (fun p hp => List.mem_append_left _ hp)
  have hef : es.map Er.en = fs.map Er.en := by rw [hes, hfs]
  have hlen : es.length = fs.length := by have := congrArg List.length hef; simpa using this
  have hle : es.length ≤ 100000 := by have h1 := congrArg List.length hes; have h2 := parse_len c; rw [List.length_map] at h1; omega
  refine W_assign rfl rfl ?_
  refine W_assign rfl rfl ?_
  refine W_nil ?_
  refine W_seq ?_
  refine W_sr ?_
  refine W_move rfl rfl ?_
  refine W_len rfl ty23 rfl rfl ?_
  refine W_move rfl rfl ?_
  refine W_len rfl ty25 rfl rfl ?_
  refine W_bin rfl rfl b_neq rfl ?_
  refine W_nil ?_
  refine W_condF rfl (by simp [hlen]) ?_
  refine W_skip ?_
  refine W_seq ?_
  refine W_sr ?_
  refine W_assign rfl rfl ?_
  refine W_nil ?_
  refine W_block ?_
  refine W_loopC (X := Nat) [(3, _), (4, _)] (fun (i : Nat) => [(5, .int .i64 (i : Int))]) (fun _ => _) (fun _ => _) (fun (i : Nat) => i ≤ es.length) (fun (i : Nat) => es.length - i) 0 (Nat.zero_le _) (sub_cons rfl (sub_cons rfl (sub_nil _))) (sub_cons rfl (sub_nil _)) rfl (by repeat (first | exact HSub.refl _ | refine HSub.cons (by repeat (first | exact Take.here _ | apply Take.next | apply Take.app)) ?_ | refine HSub.app (by repeat (first | exact TakeS.here _ | apply TakeS.next | apply TakeS.app)) ?_ | refine HSub.drop ?_ | refine HSub.dropS ?_ | exact HSub.nil _)) ?_
  intro i hi
  simp only [List.cons_append, List.nil_append]
  refine W_seq ?_
  refine W_sr ?_
  refine W_move rfl rfl ?_
  refine W_move rfl rfl ?_
  refine W_len rfl ty23 rfl rfl ?_
  refine W_bin rfl rfl b_lss rfl ?_
  refine W_nil ?_
  refine W_condPS (p := (i : Int) < (es.length : Int)) rfl (by simp) (fun c0 => ?_) (fun c0 => ?_)
  · skip
    refine W_skip ?_
    refine W_seq ?_
    refine W_block ?_
    refine W_quietsr (by kernel_rfl) (by decide +kernel) ?_
    obtain ⟨x, hx⟩ : ∃ x, es[i]? = some x := ⟨_, List.getElem?_eq_getElem (by omega)⟩
    obtain ⟨y, hy⟩ : ∃ y, fs[i]? = some y := ⟨_, List.getElem?_eq_getElem (by omega)⟩
    obtain ⟨q1, p1, rfl, hcx⟩ := hh1.row er_len (by decide) hx
    obtain ⟨q2, p2, rfl, hcy⟩ := hh2.row er_len (by decide) hy
    obtain ⟨hat, hst, herr⟩ := en_at hef hx hy
    refine WQ_x (X_move rfl) rfl ?_
    refine WQ_x (X_move rfl) rfl ?_
    refine WQ_x (X_indexAddr (j := i) rfl rfl ty23 ty32 (by first | rfl | omega) (by first | decide | omega | simp) rfl) rfl ?_
    refine WQ_x (X_fieldAddr rfl fld32_0 (by decide)) rfl ?_
    refine WQ_x (X_load rfl ty3 rfl (v := .int .i64 (x.at_ : Int)) ((hcx 0 _ rfl).up (by repeat (first | exact HSub.refl _ | refine HSub.cons (by repeat (first | exact Take.here _ | apply Take.next | apply Take.app)) ?_ | refine HSub.app (by repeat (first | exact TakeS.here _ | apply TakeS.next | apply TakeS.app)) ?_ | refine HSub.drop ?_ | refine HSub.dropS ?_ | exact HSub.nil _)))) rfl ?_
    refine WQ_x (X_move rfl) rfl ?_
    refine WQ_x (X_move rfl) rfl ?_
    refine WQ_x (X_indexAddr (j := i) rfl rfl ty25 ty35 (by first | rfl | omega) (by first | decide | omega | simp) rfl) rfl ?_
    refine WQ_x (X_fieldAddr rfl fld35_0 (by decide)) rfl ?_
    refine WQ_x (X_load rfl ty3 rfl (v := .int .i64 (y.at_ : Int)) ((hcy 0 _ rfl).up (by repeat (first | exact HSub.refl _ | refine HSub.cons (by repeat (first | exact Take.here _ | apply Take.next | apply Take.app)) ?_ | refine HSub.app (by repeat (first | exact TakeS.here _ | apply TakeS.next | apply TakeS.app)) ?_ | refine HSub.drop ?_ | refine HSub.dropS ?_ | exact HSub.nil _)))) rfl ?_
    refine WQ_x (X_bin rfl rfl b_neq) rfl ?_
    rw [decide_eq_false (by rw [hat]; simp)]
    refine WQ_x (X_move rfl) rfl ?_
    refine WQ_gyes rfl rfl ?_
    refine WQ_x (X_move rfl) rfl ?_
    refine WQ_gyes rfl rfl ?_
    refine WQ_x (X_move rfl) rfl ?_
    refine WQ_gyes rfl rfl ?_
    refine WQ_x (X_indexAddr (j := i) rfl rfl ty23 ty32 (by first | rfl | omega) (by first | decide | omega | simp) rfl) rfl ?_
    refine WQ_gyes rfl rfl ?_
    refine WQ_x (X_fieldAddr rfl fld32_2 (by decide)) rfl ?_
    refine WQ_gyes rfl rfl ?_
    refine WQ_x (X_load rfl ty30 rfl (v := .int .i64 x.err) ((hcx 8 _ rfl).up (by repeat (first | exact HSub.refl _ | refine HSub.cons (by repeat (first | exact Take.here _ | apply Take.next | apply Take.app)) ?_ | refine HSub.app (by repeat (first | exact TakeS.here _ | apply TakeS.next | apply TakeS.app)) ?_ | refine HSub.drop ?_ | refine HSub.dropS ?_ | exact HSub.nil _)))) rfl ?_
    refine WQ_gyes rfl rfl ?_
    refine WQ_x (X_move rfl) rfl ?_
    refine WQ_gyes rfl rfl ?_
    refine WQ_x (X_move rfl) rfl ?_
    refine WQ_gyes rfl rfl ?_
    refine WQ_x (X_indexAddr (j := i) rfl rfl ty25 ty35 (by first | rfl | omega) (by first | decide | omega | simp) rfl) rfl ?_
    refine WQ_gyes rfl rfl ?_
    refine WQ_x (X_fieldAddr rfl fld35_2 (by decide)) rfl ?_
    refine WQ_gyes rfl rfl ?_
    refine WQ_x (X_load rfl ty3 rfl (v := .int .i64 y.err) ((hcy 8 _ rfl).up (by repeat (first | exact HSub.refl _ | refine HSub.cons (by repeat (first | exact Take.here _ | apply Take.next | apply Take.app)) ?_ | refine HSub.app (by repeat (first | exact TakeS.here _ | apply TakeS.next | apply TakeS.app)) ?_ | refine HSub.drop ?_ | refine HSub.dropS ?_ | exact HSub.nil _)))) rfl ?_
    refine WQ_gyes rfl rfl ?_
    refine WQ_x (X_bin rfl rfl b_neq) rfl ?_
    rw [decide_eq_false (by rw [herr]; simp)]
    first | refine WQ_x (X_pickt rfl rfl) rfl ?_ | refine WQ_x (X_pickf rfl rfl) rfl ?_
    refine WQ_x (X_move rfl) rfl ?_
    refine WQ_gyes rfl rfl ?_
    refine WQ_x (X_move rfl) rfl ?_
    refine WQ_gyes rfl rfl ?_
    refine WQ_x (X_move rfl) rfl ?_
    refine WQ_gyes rfl rfl ?_
    refine WQ_x (X_indexAddr (j := i) rfl rfl ty23 ty32 (by first | rfl | omega) (by first | decide | omega | simp) rfl) rfl ?_
    refine WQ_gyes rfl rfl ?_
    refine WQ_x (X_fieldAddr rfl fld32_1 (by decide)) rfl ?_
    refine WQ_gyes rfl rfl ?_
    refine WQ_x (X_loadA rfl ty29 rfl (vs := x.r.cells) rfl ((Cells.within (j := 1) hcx rfl).up (by repeat (first | exact HSub.refl _ | refine HSub.cons (by repeat (first | exact Take.here _ | apply Take.next | apply Take.app)) ?_ | refine HSub.app (by repeat (first | exact TakeS.here _ | apply TakeS.next | apply TakeS.app)) ?_ | refine HSub.drop ?_ | refine HSub.dropS ?_ | exact HSub.nil _)))) rfl ?_
    refine WQ_gyes rfl rfl ?_
    refine WQ_x (X_move rfl) rfl ?_
    refine WQ_gyes rfl rfl ?_
    refine WQ_x (X_move rfl) rfl ?_
    refine WQ_gyes rfl rfl ?_
    refine WQ_x (X_indexAddr (j := i) rfl rfl ty25 ty35 (by first | rfl | omega) (by first | decide | omega | simp) rfl) rfl ?_
    refine WQ_gyes rfl rfl ?_
    refine WQ_x (X_fieldAddr rfl fld35_1 (by decide)) rfl ?_
    refine WQ_gyes rfl rfl ?_
    refine WQ_x (X_loadA rfl ty33 rfl (vs := y.r.cells) rfl ((Cells.within (j := 1) hcy rfl).up (by repeat (first | exact HSub.refl _ | refine HSub.cons (by repeat (first | exact Take.here _ | apply Take.next | apply Take.app)) ?_ | refine HSub.app (by repeat (first | exact TakeS.here _ | apply TakeS.next | apply TakeS.app)) ?_ | refine HSub.drop ?_ | refine HSub.dropS ?_ | exact HSub.nil _)))) rfl ?_
    refine WQ_gyes rfl rfl ?_
    refine WQ_callq (.cons rfl (.cons rfl .nil)) Try.call9 rfl (sameS_q hst (by have := (en_ok hes (List.mem_of_getElem? hx)).1; omega) ((hok1 _ (List.mem_of_getElem? hx)).up (by repeat (first | exact HSub.refl _ | exact hsub_left | refine HSub.dropS ?_ | refine HSub.drop ?_))) ((hok2 _ (List.mem_of_getElem? hy)).up (by repeat (first | exact HSub.refl _ | exact hsub_left | refine HSub.dropS ?_ | refine HSub.drop ?_)))) ?_
    refine WQ_gyes rfl rfl ?_
    refine WQ_x (X_not rfl) rfl ?_
    first | refine WQ_x (X_pickt rfl rfl) rfl ?_ | refine WQ_x (X_pickf rfl rfl) rfl ?_
    refine WQ_nil ?_
    refine W_condF rfl rfl ?_
    refine W_skip ?_
    refine W_blk ?_
    refine W_region ?_
    refine W_move rfl rfl ?_
    refine W_bin rfl rfl (b_add (m := ((i + 1 : Nat) : Int)) ((i64w (by omega)).trans (by omega))) rfl ?_
    refine W_assign rfl rfl ?_
    refine W_nil ?_
    refine W_again (i + 1) (by omega) (by omega) (sub_cons rfl (sub_cons rfl (sub_cons rfl (sub_nil _)))) rfl (by repeat (first | exact HSub.refl _ | refine HSub.cons (by repeat (first | exact Take.here _ | apply Take.next | apply Take.app)) ?_ | refine HSub.app (by repeat (first | exact TakeS.here _ | apply TakeS.next | apply TakeS.app)) ?_ | refine HSub.drop ?_ | refine HSub.dropS ?_ | exact HSub.nil _))
  · skip
    refine W_exit rfl ?_
    refine W_sr ?_
    refine W_callp .nil Try.call10 rfl (T := fun _ => True) trivial (known_pure ) ?_
    refine W_assign rfl rfl ?_
    refine W_nil ?_
    refine W_ret1m (H2 := H) Try.results3 rfl (.nil _) (by repeat (first | exact HSub.refl _ | refine HSub.cons (by repeat (first | exact Take.here _ | apply Take.next | apply Take.app)) ?_ | refine HSub.app (by repeat (first | exact TakeS.here _ | apply TakeS.next | apply TakeS.app)) ?_ | refine HSub.drop ?_ | refine HSub.dropS ?_ | exact HSub.nil _)) ?_
    exact ⟨rfl, rfl⟩
end Go.Proofs.Ytkhkagjbeilbgaa
