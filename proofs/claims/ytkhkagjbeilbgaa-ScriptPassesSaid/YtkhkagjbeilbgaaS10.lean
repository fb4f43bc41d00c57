/-
  Own work: contracts of functions that the statement reaches, and plain facts on what they compute; each theorem says its conditions.
-/
import Derived.Test.YtkhkagjbeilbgaaS9
import Derived.Test.YtkhkagjbeilbgaaSlArr
set_option linter.all false
set_option linter.unusedSimpArgs false
set_option linter.unusedVariables false
namespace Go.Proofs.Ytkhkagjbeilbgaa
open Go Go.Sl
attribute [local irreducible] W
open Go.Script

theorem parts_inj {s t : St} (hs : StOk s) (ht : StOk t) : (s.kind = t.kind ∧ s.parts = t.parts ∧ s.raw = t.raw) ↔ s = t := by
  constructor
  · rintro ⟨h1, h2, h3⟩
    simp only [St.parts, List.cons.injEq, and_true] at h2
    obtain ⟨ha, hb, hc, hx, hy⟩ := h2
    have f : ∀ {z w : Int}, I64 z → I64 w → u64 z = u64 w → z = w := fun {z w} h1 h2 h => by unfold u64 I64 at *; omega
    have ea := f hs.a ht.a ha
    have eb := f hs.b ht.b hb
    have ec := f hs.c ht.c hc
    cases s; cases t; simp_all
  · rintro rfl; exact ⟨rfl, rfl, rfl⟩
set_option maxHeartbeats 1000000 in
theorem same_q {w0 : World} {H : Heap} {a b : Sr} (ha : SrOk w0 H a) (hb : SrOk w0 H b)  : PureAt Try.prog w0 H 18 [.agg a.cells.toArray, .agg b.cells.toArray] (.bool (decide (a.st = b.st))) := by
  refine L_enter Try.func18 rfl Try.ntmps18 rfl rfl ?_
  by_cases hk : a.st.kind = b.st.kind
  · skip
    by_cases hp : a.st.parts = b.st.parts
    · skip
      refine W_sr ?_
      refine W_box rfl rfl rfl (fun b2 => ?_)
      refine W_box rfl rfl rfl (fun b3 => ?_)
      refine W_assign rfl rfl ?_
      refine W_nil ?_
      refine W_quietsr (by kernel_rfl) (by decide +kernel) ?_
      refine WQ_x (X_fieldAddr rfl fld29_0 (by decide)) rfl ?_
      refine WQ_x (X_load rfl ty3 rfl (Cell.own (by repeat (first | exact List.mem_cons_self | apply List.mem_cons_of_mem | apply List.mem_append_right)) rfl)) rfl ?_
      refine WQ_x (X_fieldAddr rfl fld29_0 (by decide)) rfl ?_
      refine WQ_x (X_load rfl ty3 rfl (Cell.own (by repeat (first | exact List.mem_cons_self | apply List.mem_cons_of_mem | apply List.mem_append_right)) rfl)) rfl ?_
      refine WQ_x (X_bin rfl rfl b_eql) rfl ?_
      first | rw [decide_eq_true hk] | rw [decide_eq_false hk]
      refine WQ_x (X_move rfl) rfl ?_
      refine WQ_gyes rfl rfl ?_
      refine WQ_x (X_loadB rfl ty29 rfl (by repeat (first | exact List.mem_cons_self | apply List.mem_cons_of_mem | apply List.mem_append_right)) rfl (by simp only [fillL, spliceL, Value.cells, List.take_zero, List.take_succ_cons, List.take_nil, List.drop_zero, List.drop_succ_cons, List.drop_nil, List.nil_append, List.cons_append, List.append_nil, List.length_cons, List.length_nil, Nat.zero_add, Nat.reduceAdd, List.toList_toArray]; rfl)) rfl ?_
      refine WQ_gyes rfl rfl ?_
      refine WQ_callp (.cons rfl .nil) Try.call32 rfl trivial (parts_pure _ _) ?_
      refine WQ_gyes rfl rfl ?_
      refine WQ_x (X_loadB rfl ty29 rfl (by repeat (first | exact List.mem_cons_self | apply List.mem_cons_of_mem | apply List.mem_append_right)) rfl (by simp only [fillL, spliceL, Value.cells, List.take_zero, List.take_succ_cons, List.take_nil, List.drop_zero, List.drop_succ_cons, List.drop_nil, List.nil_append, List.cons_append, List.append_nil, List.length_cons, List.length_nil, Nat.zero_add, Nat.reduceAdd, List.toList_toArray]; rfl)) rfl ?_
      refine WQ_gyes rfl rfl ?_
      refine WQ_callp (.cons rfl .nil) Try.call32 rfl trivial (parts_pure _ _) ?_
      refine WQ_gyes rfl rfl ?_
      refine WQ_x (X_eqArr rfl rfl rfl rfl ty74 ty27 (by kernel_rfl) (by kernel_rfl) rfl rfl) rfl ?_
      first | rw [decide_eq_true hp] | rw [decide_eq_false hp]
      first | refine WQ_x (X_pickt rfl rfl) rfl ?_ | refine WQ_x (X_pickf rfl rfl) rfl ?_
      refine WQ_x (X_move rfl) rfl ?_
      refine WQ_gyes rfl rfl ?_
      refine WQ_x (X_fieldAddr rfl fld29_6 (by decide)) rfl ?_
      refine WQ_gyes rfl rfl ?_
      refine WQ_x (X_load rfl ty22 rfl (Cell.own (by repeat (first | exact List.mem_cons_self | apply List.mem_cons_of_mem | apply List.mem_append_right)) rfl)) rfl ?_
      refine WQ_gyes rfl rfl ?_
      refine WQ_x (X_fieldAddr rfl fld29_6 (by decide)) rfl ?_
      refine WQ_gyes rfl rfl ?_
      refine WQ_x (X_load rfl ty22 rfl (Cell.own (by repeat (first | exact List.mem_cons_self | apply List.mem_cons_of_mem | apply List.mem_append_right)) rfl)) rfl ?_
      refine WQ_gyes rfl rfl ?_
      refine WQ_callq (.cons rfl (.cons rfl .nil)) Try.call33 rfl (equal_q ha.st.raw hb.st.raw (ha.holds.up (by repeat (first | exact HSub.refl _ | refine HSub.cons (by repeat (first | exact Take.here _ | apply Take.next | apply Take.app)) ?_ | refine HSub.app (by repeat (first | exact TakeS.here _ | apply TakeS.next | apply TakeS.app)) ?_ | refine HSub.drop ?_ | refine HSub.dropS ?_ | exact HSub.nil _))) (hb.holds.up (by repeat (first | exact HSub.refl _ | refine HSub.cons (by repeat (first | exact Take.here _ | apply Take.next | apply Take.app)) ?_ | refine HSub.app (by repeat (first | exact TakeS.here _ | apply TakeS.next | apply TakeS.app)) ?_ | refine HSub.drop ?_ | refine HSub.dropS ?_ | exact HSub.nil _)))) ?_
      first | refine WQ_x (X_pickt rfl rfl) rfl ?_ | refine WQ_x (X_pickf rfl rfl) rfl ?_
      refine WQ_x (X_assign rfl) rfl ?_
      refine WQ_nil ?_
      refine W_ret1m (H2 := H) Try.results18 rfl (.nil _) (by repeat (first | exact HSub.refl _ | refine HSub.cons (by repeat (first | exact Take.here _ | apply Take.next | apply Take.app)) ?_ | refine HSub.app (by repeat (first | exact TakeS.here _ | apply TakeS.next | apply TakeS.app)) ?_ | refine HSub.drop ?_ | refine HSub.dropS ?_ | exact HSub.nil _)) ?_
      refine ⟨congrArg Value.bool ?_, rfl⟩
      rw [Bool.eq_iff_iff, decide_eq_true_eq (p := a.st = b.st), ← parts_inj ha.st hb.st]
      simp [hk, hp]
    · skip
      refine W_sr ?_
      refine W_box rfl rfl rfl (fun b2 => ?_)
      refine W_box rfl rfl rfl (fun b3 => ?_)
      refine W_assign rfl rfl ?_
      refine W_nil ?_
      refine W_quietsr (by kernel_rfl) (by decide +kernel) ?_
      refine WQ_x (X_fieldAddr rfl fld29_0 (by decide)) rfl ?_
      refine WQ_x (X_load rfl ty3 rfl (Cell.own (by repeat (first | exact List.mem_cons_self | apply List.mem_cons_of_mem | apply List.mem_append_right)) rfl)) rfl ?_
      refine WQ_x (X_fieldAddr rfl fld29_0 (by decide)) rfl ?_
      refine WQ_x (X_load rfl ty3 rfl (Cell.own (by repeat (first | exact List.mem_cons_self | apply List.mem_cons_of_mem | apply List.mem_append_right)) rfl)) rfl ?_
      refine WQ_x (X_bin rfl rfl b_eql) rfl ?_
      first | rw [decide_eq_true hk] | rw [decide_eq_false hk]
      refine WQ_x (X_move rfl) rfl ?_
      refine WQ_gyes rfl rfl ?_
      refine WQ_x (X_loadB rfl ty29 rfl (by repeat (first | exact List.mem_cons_self | apply List.mem_cons_of_mem | apply List.mem_append_right)) rfl (by simp only [fillL, spliceL, Value.cells, List.take_zero, List.take_succ_cons, List.take_nil, List.drop_zero, List.drop_succ_cons, List.drop_nil, List.nil_append, List.cons_append, List.append_nil, List.length_cons, List.length_nil, Nat.zero_add, Nat.reduceAdd, List.toList_toArray]; rfl)) rfl ?_
      refine WQ_gyes rfl rfl ?_
      refine WQ_callp (.cons rfl .nil) Try.call32 rfl trivial (parts_pure _ _) ?_
      refine WQ_gyes rfl rfl ?_
      refine WQ_x (X_loadB rfl ty29 rfl (by repeat (first | exact List.mem_cons_self | apply List.mem_cons_of_mem | apply List.mem_append_right)) rfl (by simp only [fillL, spliceL, Value.cells, List.take_zero, List.take_succ_cons, List.take_nil, List.drop_zero, List.drop_succ_cons, List.drop_nil, List.nil_append, List.cons_append, List.append_nil, List.length_cons, List.length_nil, Nat.zero_add, Nat.reduceAdd, List.toList_toArray]; rfl)) rfl ?_
      refine WQ_gyes rfl rfl ?_
      refine WQ_callp (.cons rfl .nil) Try.call32 rfl trivial (parts_pure _ _) ?_
      refine WQ_gyes rfl rfl ?_
      refine WQ_x (X_eqArr rfl rfl rfl rfl ty74 ty27 (by kernel_rfl) (by kernel_rfl) rfl rfl) rfl ?_
      first | rw [decide_eq_true hp] | rw [decide_eq_false hp]
      first | refine WQ_x (X_pickt rfl rfl) rfl ?_ | refine WQ_x (X_pickf rfl rfl) rfl ?_
      refine WQ_x (X_move rfl) rfl ?_
      refine WQ_gno rfl rfl rfl rfl ?_
      refine WQ_gno rfl rfl rfl rfl ?_
      refine WQ_gno rfl rfl rfl rfl ?_
      refine WQ_gno rfl rfl rfl rfl ?_
      refine WQ_gno rfl rfl rfl rfl ?_
      first | refine WQ_x (X_pickt rfl rfl) rfl ?_ | refine WQ_x (X_pickf rfl rfl) rfl ?_
      refine WQ_x (X_assign rfl) rfl ?_
      refine WQ_nil ?_
      refine W_ret1m (H2 := H) Try.results18 rfl (.nil _) (by repeat (first | exact HSub.refl _ | refine HSub.cons (by repeat (first | exact Take.here _ | apply Take.next | apply Take.app)) ?_ | refine HSub.app (by repeat (first | exact TakeS.here _ | apply TakeS.next | apply TakeS.app)) ?_ | refine HSub.drop ?_ | refine HSub.dropS ?_ | exact HSub.nil _)) ?_
      refine ⟨congrArg Value.bool ?_, rfl⟩
      rw [Bool.eq_iff_iff, decide_eq_true_eq (p := a.st = b.st), ← parts_inj ha.st hb.st]
      simp [hk, hp]
  · skip
    by_cases hp : a.st.parts = b.st.parts
    · skip
      refine W_sr ?_
      refine W_box rfl rfl rfl (fun b2 => ?_)
      refine W_box rfl rfl rfl (fun b3 => ?_)
      refine W_assign rfl rfl ?_
      refine W_nil ?_
      refine W_quietsr (by kernel_rfl) (by decide +kernel) ?_
      refine WQ_x (X_fieldAddr rfl fld29_0 (by decide)) rfl ?_
      refine WQ_x (X_load rfl ty3 rfl (Cell.own (by repeat (first | exact List.mem_cons_self | apply List.mem_cons_of_mem | apply List.mem_append_right)) rfl)) rfl ?_
      refine WQ_x (X_fieldAddr rfl fld29_0 (by decide)) rfl ?_
      refine WQ_x (X_load rfl ty3 rfl (Cell.own (by repeat (first | exact List.mem_cons_self | apply List.mem_cons_of_mem | apply List.mem_append_right)) rfl)) rfl ?_
      refine WQ_x (X_bin rfl rfl b_eql) rfl ?_
      first | rw [decide_eq_true hk] | rw [decide_eq_false hk]
      refine WQ_x (X_move rfl) rfl ?_
      refine WQ_gno rfl rfl rfl rfl ?_
      refine WQ_gno rfl rfl rfl rfl ?_
      refine WQ_gno rfl rfl rfl rfl ?_
      refine WQ_gno rfl rfl rfl rfl ?_
      refine WQ_gno rfl rfl rfl rfl ?_
      first | refine WQ_x (X_pickt rfl rfl) rfl ?_ | refine WQ_x (X_pickf rfl rfl) rfl ?_
      refine WQ_x (X_move rfl) rfl ?_
      refine WQ_gno rfl rfl rfl rfl ?_
      refine WQ_gno rfl rfl rfl rfl ?_
      refine WQ_gno rfl rfl rfl rfl ?_
      refine WQ_gno rfl rfl rfl rfl ?_
      refine WQ_gno rfl rfl rfl rfl ?_
      first | refine WQ_x (X_pickt rfl rfl) rfl ?_ | refine WQ_x (X_pickf rfl rfl) rfl ?_
      refine WQ_x (X_assign rfl) rfl ?_
      refine WQ_nil ?_
      refine W_ret1m (H2 := H) Try.results18 rfl (.nil _) (by repeat (first | exact HSub.refl _ | refine HSub.cons (by repeat (first | exact Take.here _ | apply Take.next | apply Take.app)) ?_ | refine HSub.app (by repeat (first | exact TakeS.here _ | apply TakeS.next | apply TakeS.app)) ?_ | refine HSub.drop ?_ | refine HSub.dropS ?_ | exact HSub.nil _)) ?_
      refine ⟨congrArg Value.bool ?_, rfl⟩
      rw [Bool.eq_iff_iff, decide_eq_true_eq (p := a.st = b.st), ← parts_inj ha.st hb.st]
      simp [hk, hp]
    · skip
      refine W_sr ?_
      refine W_box rfl rfl rfl (fun b2 => ?_)
      refine W_box rfl rfl rfl (fun b3 => ?_)
      refine W_assign rfl rfl ?_
      refine W_nil ?_
      refine W_quietsr (by kernel_rfl) (by decide +kernel) ?_
      refine WQ_x (X_fieldAddr rfl fld29_0 (by decide)) rfl ?_
      refine WQ_x (X_load rfl ty3 rfl (Cell.own (by repeat (first | exact List.mem_cons_self | apply List.mem_cons_of_mem | apply List.mem_append_right)) rfl)) rfl ?_
      refine WQ_x (X_fieldAddr rfl fld29_0 (by decide)) rfl ?_
      refine WQ_x (X_load rfl ty3 rfl (Cell.own (by repeat (first | exact List.mem_cons_self | apply List.mem_cons_of_mem | apply List.mem_append_right)) rfl)) rfl ?_
      refine WQ_x (X_bin rfl rfl b_eql) rfl ?_
      first | rw [decide_eq_true hk] | rw [decide_eq_false hk]
      refine WQ_x (X_move rfl) rfl ?_
      refine WQ_gno rfl rfl rfl rfl ?_
      refine WQ_gno rfl rfl rfl rfl ?_
      refine WQ_gno rfl rfl rfl rfl ?_
      refine WQ_gno rfl rfl rfl rfl ?_
      refine WQ_gno rfl rfl rfl rfl ?_
      first | refine WQ_x (X_pickt rfl rfl) rfl ?_ | refine WQ_x (X_pickf rfl rfl) rfl ?_
      refine WQ_x (X_move rfl) rfl ?_
      refine WQ_gno rfl rfl rfl rfl ?_
      refine WQ_gno rfl rfl rfl rfl ?_
      refine WQ_gno rfl rfl rfl rfl ?_
      refine WQ_gno rfl rfl rfl rfl ?_
      refine WQ_gno rfl rfl rfl rfl ?_
      first | refine WQ_x (X_pickt rfl rfl) rfl ?_ | refine WQ_x (X_pickf rfl rfl) rfl ?_
      refine WQ_x (X_assign rfl) rfl ?_
      refine WQ_nil ?_
      refine W_ret1m (H2 := H) Try.results18 rfl (.nil _) (by repeat (first | exact HSub.refl _ | refine HSub.cons (by repeat (first | exact Take.here _ | apply Take.next | apply Take.app)) ?_ | refine HSub.app (by repeat (first | exact TakeS.here _ | apply TakeS.next | apply TakeS.app)) ?_ | refine HSub.drop ?_ | refine HSub.dropS ?_ | exact HSub.nil _)) ?_
      refine ⟨congrArg Value.bool ?_, rfl⟩
      rw [Bool.eq_iff_iff, decide_eq_true_eq (p := a.st = b.st), ← parts_inj ha.st hb.st]
      simp [hk, hp]

theorem parts_wd {s : St} (h : StOk s) (j : Nat) : Wd (s.parts.getD j 0) := by
  have hu : ∀ z, Wd (u64 z) := fun z => by unfold Wd u64; omega
  match j with
  | 0 => exact hu _
  | 1 => exact hu _
  | 2 => exact hu _
  | 3 => exact h.x
  | 4 => exact h.y
  | j + 5 => show Wd 0; exact ⟨by decide, by decide⟩
theorem getD_sum {w : List Nat} (h : sumL w ≤ 20) (j : Nat) : w.getD j 0 ≤ 20 := by
  by_cases hj : j < w.length
  · have := sum_take hj
    have := sum_le w (j + 1)
    omega
  · rw [List.getD, List.getElem?_eq_none (by omega)]; decide
theorem ptl_succ {f : Nat → List Int} (j : Nat) : (List.range (j + 1)).flatMap f = (List.range j).flatMap f ++ f j := by rw [List.range_succ, List.flatMap_append]; simp
theorem ptl_len {ptl : Nat → List Int} {p : List Int} {wk w : List Nat} (h : ptl = fun j => (List.range j).flatMap fun i => lowL (p.getD i 0) (wk.getD i 0)) (hw : wk = w) (hs : sumL w ≤ 20) {j : Nat} (hj : j ≤ 5) : (ptl j).length ≤ 200 := by
  subst hw
  have : ∀ j, (ptl j).length ≤ j * 20 := fun j => by
    induction j with
    | zero => rw [h]; simp
    | succ j ih =>
      have := getD_sum hs j
      rw [h] at ih ⊢
      simp only [ptl_succ, List.length_append, lowL_len] at ih ⊢
      rw [Nat.add_mul]; omega
  have := this j
  have : j * 20 ≤ 5 * 20 := Nat.mul_le_mul_right _ hj
  omega

/-- the first that is wrong, and how -/
def FirstE (l : List Sr) (e : Int) : Prop := ∃ i x, l[i]? = some x ∧ e = chk x.st ∧ chk x.st ≠ 0 ∧ ∀ s ∈ (l.take i).map Sr.st, chk s = 0
set_option maxHeartbeats 4000000 in
theorem bytes_L {w0 : World} {H : Heap} {l : List Sr} {ad : Option Addr} {cap : Nat} (hl : l.length ≤ 1000000) (hok : ∀ x ∈ l, SrOk w0 H x) (hrow : Holds w0 H ad (srRow l))  : LCalls Try.prog w0 15 #[.slice ad l.length cap] (H) (fun v H' => (∃ e, FirstE l e ∧ v = .tuple #[.slice none 0 0, .int .i64 e] ∧ H' = H) ∨ ((∀ s ∈ l.map Sr.st, chk s = 0) ∧ ∃ sv HB, OwnS 5 1 sv (encs (l.map Sr.st)).length (bytesV (encs (l.map Sr.st))) HB ∧ v = .tuple #[sv, .int .i64 0] ∧ H' = HB ++ H)) := by
  refine L_enter (l := [.slice ad l.length cap]) Try.func15 rfl Try.ntmps15 rfl rfl ?_
  refine W_sr ?_
  refine W_assign rfl rfl ?_
  refine W_assign rfl rfl ?_
  refine W_nil ?_
  refine W_sr ?_
  refine W_assign rfl rfl ?_
  refine W_nil ?_
  refine W_seq ?_
  refine W_sr ?_
  refine W_move rfl rfl ?_
  refine W_len rfl ty40 rfl rfl ?_
  refine W_move rfl rfl ?_
  refine W_nil ?_
  refine W_block ?_
  refine W_loopC (X := (Nat × Value × Heap)) [(12, _), (13, _)] (fun (x : (Nat × Value × Heap)) => [(4, x.2.1), (14, .int .i64 (x.1 : Int))]) (fun _ => _) (fun (x : (Nat × Value × Heap)) => x.2.2 ++ H) (fun (x : (Nat × Value × Heap)) => x.1 ≤ l.length ∧ (∀ s ∈ (l.take x.1).map Sr.st, chk s = 0) ∧ OwnS 5 1 x.2.1 (encs ((l.take x.1).map Sr.st)).length (bytesV (encs ((l.take x.1).map Sr.st))) x.2.2) (fun (x : (Nat × Value × Heap)) => l.length - x.1) (0, .slice none 0 0, []) ⟨by simp, by simp, .nil⟩ (sub_cons rfl (sub_cons rfl (sub_nil _))) (sub_cons rfl (sub_cons rfl (sub_nil _))) rfl (by repeat (first | exact HSub.refl _ | refine HSub.cons (by repeat (first | exact Take.here _ | apply Take.next | apply Take.app)) ?_ | refine HSub.app (by repeat (first | exact TakeS.here _ | apply TakeS.next | apply TakeS.app)) ?_ | refine HSub.drop ?_ | refine HSub.dropS ?_ | exact HSub.nil _)) ?_
  rintro ⟨i, v, HB⟩ ⟨hi, hck0, hO⟩
  dsimp only at hi hck0 hO ⊢
  have hel := encs_len hck0
  rw [List.length_map, List.length_take] at hel
  simp only [List.cons_append, List.nil_append]
  refine W_sr ?_
  refine W_bin rfl rfl b_lss rfl ?_
  refine W_nil ?_
  refine W_seq ?_
  refine W_condPS (p := (i : Int) < (l.length : Int)) rfl (by simp) (fun c0 => ?_) (fun c0 => ?_)
  · skip
    refine W_skip ?_
    refine W_seq ?_
    refine W_block ?_
    refine W_sr ?_
    obtain ⟨x, hx⟩ : ∃ x, l[i]? = some x := ⟨_, List.getElem?_eq_getElem (by omega)⟩
    have hxo := hok x (List.mem_of_getElem? hx)
    obtain ⟨b0, o0, rfl, hcx⟩ := hrow.row sr_len (by decide) hx
    refine W_indexAddr (j := i) rfl rfl ty40 ty29 rfl (by omega) rfl rfl ?_
    refine W_loadA rfl ty29 rfl (vs := x.cells) rfl (hcx.up (by repeat (first | exact HSub.refl _ | refine HSub.cons (by repeat (first | exact Take.here _ | apply Take.next | apply Take.app)) ?_ | refine HSub.app (by repeat (first | exact TakeS.here _ | apply TakeS.next | apply TakeS.app)) ?_ | refine HSub.drop ?_ | refine HSub.dropS ?_ | exact HSub.nil _))) rfl ?_
    refine W_alloc ty29 rfl rfl (fun b6 => ?_)
    refine W_storeA rfl rfl ty29 rfl rfl (by repeat (first | exact List.mem_cons_self | apply List.mem_cons_of_mem | apply List.mem_append_right)) (Nat.le_of_ble_eq_true rfl) (by simp only [fillL, spliceL, Value.cells, List.take_zero, List.take_succ_cons, List.take_nil, List.drop_zero, List.drop_succ_cons, List.drop_nil, List.nil_append, List.cons_append, List.append_nil, List.length_cons, List.length_nil, Nat.zero_add, Nat.reduceAdd, List.toList_toArray]; rfl) (by repeat (first | exact Upd.head _ | apply Upd.tail | apply Upd.app)) ?_
    refine W_nil ?_
    refine W_seq ?_
    refine W_sr ?_
    refine W_loadB rfl ty29 rfl (by repeat (first | exact List.mem_cons_self | apply List.mem_cons_of_mem | apply List.mem_append_right)) rfl (by simp only [fillL, spliceL, Value.cells, List.take_zero, List.take_succ_cons, List.take_nil, List.drop_zero, List.drop_succ_cons, List.drop_nil, List.nil_append, List.cons_append, List.append_nil, List.length_cons, List.length_nil, Nat.zero_add, Nat.reduceAdd, List.toList_toArray]; rfl) rfl ?_
    refine W_callp (.cons rfl .nil) Try.call19 rfl (T := fun _ => True) trivial (check_pure _ _ _) ?_
    refine W_assign rfl rfl ?_
    refine W_nil ?_
    refine W_sr ?_
    refine W_move rfl rfl ?_
    refine W_bin rfl rfl b_neq rfl ?_
    refine W_nil ?_
    refine W_condS rfl (fun c1 => ?_) (fun c1 => ?_)
    · simp only [cond_true, cond_false, Bool.and_eq_true, Bool.or_eq_true, Bool.and_eq_false_iff, Bool.or_eq_false_iff, decide_eq_true_eq, decide_eq_false_iff_not, Bool.not_eq_true', Bool.not_eq_false', ne_eq, Decidable.not_not] at c1
      refine W_sr ?_
      refine W_move rfl rfl ?_
      refine W_assign rfl rfl ?_
      refine W_assign rfl rfl ?_
      refine W_nil ?_
      refine W_ret2m (H2 := H) Try.results15 rfl rfl (.nil _) (by repeat (first | exact HSub.refl _ | refine HSub.cons (by repeat (first | exact Take.here _ | apply Take.next | apply Take.app)) ?_ | refine HSub.app (by repeat (first | exact TakeS.here _ | apply TakeS.next | apply TakeS.app)) ?_ | refine HSub.drop ?_ | refine HSub.dropS ?_ | exact HSub.nil _)) ?_
      refine .inl ⟨chk x.st, ⟨i, x, hx, rfl, by simpa using c1, fun s hs => hck0 s hs⟩, rfl, rfl⟩
    · simp only [cond_true, cond_false, Bool.and_eq_true, Bool.or_eq_true, Bool.and_eq_false_iff, Bool.or_eq_false_iff, decide_eq_true_eq, decide_eq_false_iff_not, Bool.not_eq_true', Bool.not_eq_false', ne_eq, Decidable.not_not] at c1
      refine W_skip ?_
      refine W_sr ?_
      refine W_fieldAddr rfl fld29_0 (by decide) rfl ?_
      refine W_load rfl ty3 rfl (Cell.own (by repeat (first | exact List.mem_cons_self | apply List.mem_cons_of_mem | apply List.mem_append_right)) rfl) rfl ?_
      refine W_callp (.cons rfl .nil) Try.call29 rfl (T := fun _ => True) trivial (shape_pure _) ?_
      obtain ⟨a0, a1, a2, a3, a4, hw⟩ := len5 (shW_len x.st.kind)
      obtain ⟨e0, e1, e2, e3, e4, e5, he⟩ := len6 (shB_len x.st.kind)
      rw [hw, he]
      have hck : chk x.st = 0 := by simpa using c1
      obtain ⟨hkk, hr5, hs2, _⟩ := len_chk hck
      have hk17 : 0 ≤ x.st.kind ∧ x.st.kind ≤ 17 := by simpa [isK] using hkk
      rw [hw] at hs2
      simp only [nats, ints, List.map_cons, List.map_nil]
      refine W_move rfl rfl ?_
      refine W_extract rfl rfl rfl ?_
      refine W_extract rfl rfl rfl ?_
      refine W_alloc ty67 rfl rfl (fun b8 => ?_)
      refine W_alloc ty70 rfl rfl (fun b9 => ?_)
      refine W_storeA rfl rfl ty67 rfl rfl (by repeat (first | exact List.mem_cons_self | apply List.mem_cons_of_mem | apply List.mem_append_right)) (Nat.le_of_ble_eq_true rfl) (by simp only [fillL, spliceL, Value.cells, List.take_zero, List.take_succ_cons, List.take_nil, List.drop_zero, List.drop_succ_cons, List.drop_nil, List.nil_append, List.cons_append, List.append_nil, List.length_cons, List.length_nil, Nat.zero_add, Nat.reduceAdd, List.toList_toArray]; rfl) (by repeat (first | exact Upd.head _ | apply Upd.tail | apply Upd.app)) ?_
      refine W_storeA rfl rfl ty70 rfl rfl (by repeat (first | exact List.mem_cons_self | apply List.mem_cons_of_mem | apply List.mem_append_right)) (Nat.le_of_ble_eq_true rfl) (by simp only [fillL, spliceL, Value.cells, List.take_zero, List.take_succ_cons, List.take_nil, List.drop_zero, List.drop_succ_cons, List.drop_nil, List.nil_append, List.cons_append, List.append_nil, List.length_cons, List.length_nil, Nat.zero_add, Nat.reduceAdd, List.toList_toArray]; rfl) (by repeat (first | exact Upd.head _ | apply Upd.tail | apply Upd.app)) ?_
      refine W_nil ?_
      refine W_sr ?_
      refine W_move rfl rfl ?_
      refine W_fieldAddr rfl fld29_0 (by decide) rfl ?_
      refine W_load rfl ty3 rfl (Cell.own (by repeat (first | exact List.mem_cons_self | apply List.mem_cons_of_mem | apply List.mem_append_right)) rfl) rfl ?_
      refine W_conv rfl ty3 ty5 rfl rfl ?_
      rw [u8_wrap]
      refine W_buildSlice (l := [.int .u8 (x.st.kind % 256)]) ty22 ty5 (.cons rfl rfl rfl rfl rfl .nil) rfl rfl rfl rfl rfl rfl rfl (fun b33 => ?_)
      refine W_append (news := bytesV [x.st.kind % 256]) (m := 1) (HB := HB) (H0 := (b6, .cells 29 7 x.cells) :: (b8, .cells 67 5 (nats [a0, a1, a2, a3, a4])) :: H) rfl rfl ty22 ty5 rfl (by decide) hO rfl (Holds.own List.mem_cons_self) rfl (by simp only [maxLen]; omega) (by omega) (by repeat (first | exact HSub.refl _ | refine HSub.cons (by repeat (first | exact Take.here _ | apply Take.next | apply Take.app)) ?_ | refine HSub.app (by repeat (first | exact TakeS.here _ | apply TakeS.next | apply TakeS.app)) ?_ | refine HSub.drop ?_ | refine HSub.dropS ?_ | exact HSub.nil _)) rfl (fun v1 HB1 hO1 => ?_)
      refine W_assign rfl rfl ?_
      refine W_nil ?_
      refine W_seq ?_
      refine W_anyC ((b6, .cells 29 7 x.cells) :: (b8, .cells 67 5 (nats [a0, a1, a2, a3, a4])) :: H) (by kernel_rfl) ?_
      refine WC_take 0 (l' := #[true, false, false, false, false, false, false, false, false, false, false]) rfl (by decide +kernel) (by decide +kernel) (by decide +kernel) rfl (by decide +kernel) (X_move rfl) rfl ?_
      refine WC_take 1 (l' := #[true, true, false, false, false, false, false, false, false, false, false]) rfl (by decide +kernel) (by decide +kernel) (by decide +kernel) rfl (by decide +kernel) (X_loadB rfl ty67 rfl (by repeat (first | exact List.mem_cons_self | apply List.mem_cons_of_mem | apply List.mem_append_right)) rfl (by simp only [fillL, spliceL, Value.cells, List.take_zero, List.take_succ_cons, List.take_nil, List.drop_zero, List.drop_succ_cons, List.drop_nil, List.nil_append, List.cons_append, List.append_nil, List.length_cons, List.length_nil, Nat.zero_add, Nat.reduceAdd, List.toList_toArray]; rfl)) rfl ?_
      refine WC_take 3 (l' := #[true, true, false, true, false, false, false, false, false, false, false]) rfl (by decide +kernel) (by decide +kernel) (by decide +kernel) rfl (by decide +kernel) (X_fieldAddr rfl fld29_6 (by decide)) rfl ?_
      refine WC_take 4 (l' := #[true, true, false, true, true, false, false, false, false, false, false]) rfl (by decide +kernel) (by decide +kernel) (by decide +kernel) rfl (by decide +kernel) (X_load rfl ty22 rfl (Cell.own (by repeat (first | exact List.mem_cons_self | apply List.mem_cons_of_mem | apply List.mem_append_right)) rfl)) rfl ?_
      refine WC_take 5 (l' := #[true, true, false, true, true, true, false, false, false, false, false]) rfl (by decide +kernel) (by decide +kernel) (by decide +kernel) rfl (by decide +kernel) (X_len rfl ty22 rfl) rfl ?_
      refine WC_one 2 (l' := #[true, true, true, true, true, true, false, false, false, false, false]) (by repeat (first | exact HSub.refl _ | refine HSub.cons (by repeat (first | exact Take.here _ | apply Take.next | apply Take.app)) ?_ | refine HSub.app (by repeat (first | exact TakeS.here _ | apply TakeS.next | apply TakeS.app)) ?_ | refine HSub.drop ?_ | refine HSub.dropS ?_ | exact HSub.nil _)) (by decide +kernel) rfl (by decide +kernel) ?_
      refine W_callp (.cons rfl .nil) Try.call31 rfl (T := fun _ => True) trivial (sum_pure _ _ _ _ _ (by omega)) ?_
      refine W_nil ?_
      refine WC_goal ?_
      refine WC_take 6 (l' := #[true, true, true, true, true, true, true, false, false, false, false]) rfl (by decide +kernel) (by decide +kernel) (by decide +kernel) rfl (by decide +kernel) (X_bin rfl rfl (b_add (m := ((sumL [a0, a1, a2, a3, a4] + x.st.raw.length : Nat) : Int)) ((i64w (by omega)).trans (by omega)))) rfl ?_
      refine WC_take 7 (l' := #[true, true, true, true, true, true, true, true, false, false, false]) rfl (by decide +kernel) (by decide +kernel) (by decide +kernel) rfl (by decide +kernel) (X_conv rfl ty3 ty27 (m := ((sumL [a0, a1, a2, a3, a4] + x.st.raw.length : Nat) : Int)) (u64_id (by omega))) rfl ?_
      refine WC_one 8 (l' := #[true, true, true, true, true, true, true, true, true, false, false]) (by repeat (first | exact HSub.refl _ | refine HSub.cons (by repeat (first | exact Take.here _ | apply Take.next | apply Take.app)) ?_ | refine HSub.app (by repeat (first | exact TakeS.here _ | apply TakeS.next | apply TakeS.app)) ?_ | refine HSub.drop ?_ | refine HSub.dropS ?_ | exact HSub.nil _)) (by decide +kernel) rfl (by decide +kernel) ?_
      refine W_call (.cons rfl (.cons rfl .nil)) Try.call30 rfl (low_L (by unfold Wd; omega) 2 (by decide)) ?_
      rintro w1 H' ⟨HL1, hL1, rfl⟩
      obtain ⟨al1, cl1, rfl, _, _, hhl1⟩ := Holds.of_own (w0 := w0) (H := HL1 ++ []) hL1 (fun p hp => List.mem_append_left _ hp)
      refine W_nil ?_
      refine WC_goal ?_
      refine WC_one 9 (l' := #[true, true, true, true, true, true, true, true, true, true, false]) (by repeat (first | exact HSub.refl _ | refine HSub.cons (by repeat (first | exact Take.here _ | apply Take.next | apply Take.app)) ?_ | refine HSub.app (by repeat (first | exact TakeS.here _ | apply TakeS.next | apply TakeS.app)) ?_ | refine HSub.drop ?_ | refine HSub.dropS ?_ | exact HSub.nil _)) (by decide +kernel) rfl (by decide +kernel) ?_
      obtain ⟨pre, hpre⟩ : ∃ pre, pre = encs ((l.take i).map Sr.st) ++ (x.st.kind :: lowL (sumL (shW x.st.kind) + x.st.raw.length : Nat) 2) := ⟨_, rfl⟩
      have hprl : pre.length ≤ l.length * 535 + 3 := by rw [hpre, List.length_append, List.length_cons, lowL_len]; omega
      have epre : bytesV (encs ((l.take i).map Sr.st)) ++ bytesV [x.st.kind % 256] ++ bytesV (lowL (sumL [a0, a1, a2, a3, a4] + x.st.raw.length : Nat) 2) = bytesV pre := by
        rw [hpre, hw, ← bytesV_append, ← bytesV_append, List.append_assoc]; congr 2; rw [show x.st.kind % 256 = x.st.kind by omega]; rfl
      refine W_append (news := bytesV (lowL (sumL [a0, a1, a2, a3, a4] + x.st.raw.length : Nat) 2)) (m := 2) (HB := HB1) (H0 := (b6, .cells 29 7 x.cells) :: (b8, .cells 67 5 (nats [a0, a1, a2, a3, a4])) :: H) rfl rfl ty22 ty5 rfl (by decide) hO1 (by rw [bytesV_len, lowL_len]) (hhl1.up (by repeat (first | exact HSub.refl _ | refine HSub.cons (by repeat (first | exact Take.here _ | apply Take.next | apply Take.app)) ?_ | refine HSub.app (by repeat (first | exact TakeS.here _ | apply TakeS.next | apply TakeS.app)) ?_ | refine HSub.drop ?_ | refine HSub.dropS ?_ | exact HSub.nil _))) (bytesV_one _) (by simp only [maxLen]; omega) (by omega) (by repeat (first | exact HSub.refl _ | refine HSub.cons (by repeat (first | exact Take.here _ | apply Take.next | apply Take.app)) ?_ | refine HSub.app (by repeat (first | exact TakeS.here _ | apply TakeS.next | apply TakeS.app)) ?_ | refine HSub.drop ?_ | refine HSub.dropS ?_ | exact HSub.nil _)) rfl (fun v2 HB2 hO2 => ?_)
      rw [epre] at hO2
      have hO2 : OwnS 5 1 v2 pre.length (bytesV pre) HB2 := by
        have e : (encs ((l.take i).map Sr.st)).length + 1 + 2 = pre.length := by rw [hpre, List.length_append, List.length_cons, lowL_len]
        rwa [e] at hO2
      refine W_nil ?_
      refine WC_goal ?_
      refine WC_take 10 (l' := #[true, true, true, true, true, true, true, true, true, true, true]) rfl (by decide +kernel) (by decide +kernel) (by decide +kernel) rfl (by decide +kernel) (X_assign rfl) rfl ?_
      refine WC_done (by repeat (first | exact HSub.refl _ | refine HSub.cons (by repeat (first | exact Take.here _ | apply Take.next | apply Take.app)) ?_ | refine HSub.app (by repeat (first | exact TakeS.here _ | apply TakeS.next | apply TakeS.app)) ?_ | refine HSub.drop ?_ | refine HSub.dropS ?_ | exact HSub.nil _)) (by decide +kernel) ?_
      refine W_seq ?_
      refine W_sr ?_
      refine W_loadB rfl ty29 rfl (by repeat (first | exact List.mem_cons_self | apply List.mem_cons_of_mem | apply List.mem_append_right)) rfl (by simp only [fillL, spliceL, Value.cells, List.take_zero, List.take_succ_cons, List.take_nil, List.drop_zero, List.drop_succ_cons, List.drop_nil, List.nil_append, List.cons_append, List.append_nil, List.length_cons, List.length_nil, Nat.zero_add, Nat.reduceAdd, List.toList_toArray]; rfl) rfl ?_
      refine W_callp (.cons rfl .nil) Try.call32 rfl (T := fun _ => True) trivial (parts_pure _ _) ?_
      refine W_move rfl rfl ?_
      refine W_nil ?_
      refine W_block ?_
      obtain ⟨ptl, hptl⟩ : ∃ ptl : Nat → List Int, ptl = fun j => (List.range j).flatMap fun i => lowL (x.st.parts.getD i 0) ((shW x.st.kind).getD i 0) := ⟨_, rfl⟩
      have hpl : ∀ j, j ≤ 5 → (ptl j).length ≤ 200 := fun j hj => ptl_len hptl hw hs2 hj
      have hp0 : ptl 0 = [] := by rw [hptl]; rfl
      have hO2 : OwnS 5 1 v2 (pre ++ ptl 0).length (bytesV (pre ++ ptl 0)) HB2 := by rw [hp0, List.append_nil]; exact hO2
      refine W_loopC (X := (Nat × Value × Heap)) [(6, _), (8, _), (12, _), (13, _), (14, _), (46, _)] (fun (y : (Nat × Value × Heap)) => [(4, y.2.1), (47, .int .i64 (y.1 : Int))]) (fun _ => _) (fun (y : (Nat × Value × Heap)) => y.2.2 ++ ((b6, .cells 29 7 x.cells) :: (b8, .cells 67 5 (nats [a0, a1, a2, a3, a4])) :: H)) (fun (y : (Nat × Value × Heap)) => y.1 ≤ 5 ∧ OwnS 5 1 y.2.1 (pre ++ ptl y.1).length (bytesV (pre ++ ptl y.1)) y.2.2) (fun (y : (Nat × Value × Heap)) => 5 - y.1) (0, v2, HB2) ⟨by simp, hO2⟩ (sub_cons rfl (sub_cons rfl (sub_cons rfl (sub_cons rfl (sub_cons rfl (sub_cons rfl (sub_nil _))))))) (sub_cons rfl (sub_cons rfl (sub_nil _))) rfl (by repeat (first | exact HSub.refl _ | refine HSub.cons (by repeat (first | exact Take.here _ | apply Take.next | apply Take.app)) ?_ | refine HSub.app (by repeat (first | exact TakeS.here _ | apply TakeS.next | apply TakeS.app)) ?_ | refine HSub.drop ?_ | refine HSub.dropS ?_ | exact HSub.nil _)) ?_
      rintro ⟨j, v4, HB4⟩ ⟨hj, hO4⟩
      dsimp only at hj hO4 ⊢
      have hplj := hpl j hj
      rw [List.length_append] at hO4
      simp only [List.cons_append, List.nil_append]
      refine W_sr ?_
      refine W_bin rfl rfl b_lss rfl ?_
      refine W_nil ?_
      refine W_seq ?_
      refine W_condPS (p := (j : Int) < 5) rfl (by simp) (fun c2 => ?_) (fun c2 => ?_)
      · skip
        refine W_skip ?_
        refine W_seq ?_
        refine W_block ?_
        refine W_sr ?_
        refine W_move rfl rfl ?_
        refine W_indexA (v := .int .u64 (x.st.parts.getD j 0)) (j := j) rfl rfl ty74 ty27 rfl (by first | rfl | omega) (by first | decide | omega) (by rw [Nat.mul_one]; simpa using words_get (l := x.st.parts) (i := j) (by rw [parts_len]; omega)) rfl ?_
        refine W_assign rfl rfl ?_
        refine W_assign rfl rfl ?_
        refine W_nil ?_
        refine W_region ?_
        refine W_move rfl rfl ?_
        refine W_move rfl rfl ?_
        refine W_move rfl rfl ?_
        refine W_indexAddrA (j := j) rfl rfl ty67 ty3 (by first | rfl | omega) (by first | decide | omega) rfl rfl ?_
        refine W_load rfl ty3 rfl (v := .int .i64 (([a0, a1, a2, a3, a4].getD j 0 : Nat) : Int)) (Cell.own (by repeat (first | exact List.mem_cons_self | apply List.mem_cons_of_mem | apply List.mem_append_right)) (by rw [Nat.zero_add, Nat.mul_one]; exact nats_get (l := [a0, a1, a2, a3, a4]) (i := j) (by show j < 5; omega))) rfl ?_
        have hwd := parts_wd hxo.st j
        have hgj := getD_sum (w := [a0, a1, a2, a3, a4]) hs2 j
        refine W_call (.cons rfl (.cons rfl .nil)) Try.call30 rfl (low_L hwd ([a0, a1, a2, a3, a4].getD j 0) (by omega)) ?_
        rintro w2 H' ⟨HL2, hL2, rfl⟩
        obtain ⟨al2, cl2, rfl, _, _, hhl2⟩ := Holds.of_own (w0 := w0) (H := HL2 ++ []) hL2 (fun p hp => List.mem_append_left _ hp)
        have hgj := getD_sum (w := [a0, a1, a2, a3, a4]) hs2 j
        refine W_append (news := bytesV (lowL (x.st.parts.getD j 0) ([a0, a1, a2, a3, a4].getD j 0))) (m := ([a0, a1, a2, a3, a4].getD j 0)) (HB := HB4) (H0 := (b6, .cells 29 7 x.cells) :: (b8, .cells 67 5 (nats [a0, a1, a2, a3, a4])) :: H) rfl rfl ty22 ty5 rfl (by decide) hO4 (by rw [bytesV_len, lowL_len, Nat.mul_one]) (hhl2.up (by repeat (first | exact HSub.refl _ | refine HSub.cons (by repeat (first | exact Take.here _ | apply Take.next | apply Take.app)) ?_ | refine HSub.app (by repeat (first | exact TakeS.here _ | apply TakeS.next | apply TakeS.app)) ?_ | refine HSub.drop ?_ | refine HSub.dropS ?_ | exact HSub.nil _))) (bytesV_one _) (by simp only [maxLen]; omega) (by omega) (by repeat (first | exact HSub.refl _ | refine HSub.cons (by repeat (first | exact Take.here _ | apply Take.next | apply Take.app)) ?_ | refine HSub.app (by repeat (first | exact TakeS.here _ | apply TakeS.next | apply TakeS.app)) ?_ | refine HSub.drop ?_ | refine HSub.dropS ?_ | exact HSub.nil _)) rfl (fun v5 HB5 hO5 => ?_)
        refine W_assign rfl rfl ?_
        refine W_nil ?_
        refine W_blk ?_
        refine W_region ?_
        refine W_bin rfl rfl (b_add (m := ((j + 1 : Nat) : Int)) ((i64w (by omega)).trans (by omega))) rfl ?_
        refine W_move rfl rfl ?_
        refine W_nil ?_
        refine W_again (j + 1, v5, HB5) ⟨by show j + 1 ≤ 5; omega, by rw [show ptl (j + 1) = ptl j ++ lowL (x.st.parts.getD j 0) (([a0, a1, a2, a3, a4] : List Nat).getD j 0) by rw [hptl, ← hw]; exact ptl_succ _, ← List.append_assoc, bytesV_append, List.length_append, List.length_append, lowL_len]; exact hO5⟩ (by show 5 - (j + 1) < 5 - j; omega) (sub_cons rfl (sub_cons rfl (sub_cons rfl (sub_cons rfl (sub_cons rfl (sub_cons rfl (sub_cons rfl (sub_cons rfl (sub_nil _))))))))) rfl (by repeat (first | exact HSub.refl _ | refine HSub.cons (by repeat (first | exact Take.here _ | apply Take.next | apply Take.app)) ?_ | refine HSub.app (by repeat (first | exact TakeS.here _ | apply TakeS.next | apply TakeS.app)) ?_ | refine HSub.drop ?_ | refine HSub.dropS ?_ | exact HSub.nil _))
      · skip
        refine W_exit rfl ?_
        refine W_region ?_
        refine W_move rfl rfl ?_
        refine W_fieldAddr rfl fld29_6 (by decide) rfl ?_
        refine W_load rfl ty22 rfl (Cell.own (by repeat (first | exact List.mem_cons_self | apply List.mem_cons_of_mem | apply List.mem_append_right)) rfl) rfl ?_
        obtain rfl : j = 5 := by omega
        have ept : ptl 5 = partsL x.st.parts (shW x.st.kind) := by rw [hptl]; rfl
        refine W_append (news := bytesV x.st.raw) (m := x.st.raw.length) (HB := HB4) (H0 := H) rfl rfl ty22 ty5 rfl (by decide) hO4 (by rw [bytesV_len, Nat.mul_one]) (hxo.holds.up (by repeat (first | exact HSub.refl _ | refine HSub.cons (by repeat (first | exact Take.here _ | apply Take.next | apply Take.app)) ?_ | refine HSub.app (by repeat (first | exact TakeS.here _ | apply TakeS.next | apply TakeS.app)) ?_ | refine HSub.drop ?_ | refine HSub.dropS ?_ | exact HSub.nil _))) (bytesV_one _) (by simp only [maxLen]; omega) (by omega) (by repeat (first | exact HSub.refl _ | refine HSub.cons (by repeat (first | exact Take.here _ | apply Take.next | apply Take.app)) ?_ | refine HSub.app (by repeat (first | exact TakeS.here _ | apply TakeS.next | apply TakeS.app)) ?_ | refine HSub.drop ?_ | refine HSub.dropS ?_ | exact HSub.nil _)) rfl (fun v3 HB3 hO3 => ?_)
        have hO3 : OwnS 5 1 v3 (pre ++ (partsL x.st.parts (shW x.st.kind) ++ x.st.raw)).length (bytesV (pre ++ (partsL x.st.parts (shW x.st.kind) ++ x.st.raw))) HB3 := by
          rw [← List.append_assoc, ← ept, List.length_append, List.length_append, bytesV_append]; exact hO3
        refine W_assign rfl rfl ?_
        refine W_nil ?_
        refine W_blk ?_
        refine W_region ?_
        refine W_bin rfl rfl (b_add (m := ((i + 1 : Nat) : Int)) ((i64w (by omega)).trans (by omega))) rfl ?_
        refine W_move rfl rfl ?_
        refine W_nil ?_
        refine W_again (i + 1, v3, HB3) ⟨by show i + 1 ≤ l.length; omega, by rw [takeAt hx, List.map_append]; intro s hs; rcases List.mem_append.1 hs with hs | hs; exact hck0 s hs; (simp at hs; rw [hs]; exact hck), by rw [takeAt hx, List.map_append]; rw [show encs ((l.take i).map Sr.st ++ [x].map Sr.st) = pre ++ (partsL x.st.parts (shW x.st.kind) ++ x.st.raw) by rw [hpre]; show encs ((l.take i).map Sr.st ++ [x.st]) = _; rw [encs_append]; simp [enc, encB]]; exact hO3⟩ (by show l.length - (i + 1) < l.length - i; omega) (sub_cons rfl (sub_cons rfl (sub_cons rfl (sub_cons rfl (sub_nil _))))) rfl (by repeat (first | exact HSub.refl _ | refine HSub.cons (by repeat (first | exact Take.here _ | apply Take.next | apply Take.app)) ?_ | refine HSub.app (by repeat (first | exact TakeS.here _ | apply TakeS.next | apply TakeS.app)) ?_ | refine HSub.drop ?_ | refine HSub.dropS ?_ | exact HSub.nil _))
  · skip
    refine W_exit rfl ?_
    refine W_sr ?_
    refine W_move rfl rfl ?_
    refine W_assign rfl rfl ?_
    refine W_assign rfl rfl ?_
    refine W_nil ?_
    refine W_ret2m (H2 := HB ++ H) Try.results15 rfl rfl (.nil _) (by repeat (first | exact HSub.refl _ | refine HSub.cons (by repeat (first | exact Take.here _ | apply Take.next | apply Take.app)) ?_ | refine HSub.app (by repeat (first | exact TakeS.here _ | apply TakeS.next | apply TakeS.app)) ?_ | refine HSub.drop ?_ | refine HSub.dropS ?_ | exact HSub.nil _)) ?_
    obtain rfl : i = l.length := by omega
    rw [List.take_length] at hck0 hO
    exact .inr ⟨hck0, v, HB, hO, rfl, rfl⟩
end Go.Proofs.Ytkhkagjbeilbgaa
