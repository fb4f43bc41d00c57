/-
  Own work: contracts of functions that the statement reaches, and plain facts on what they compute; each theorem says its conditions.
-/
import Derived.Test.YtkhkagjbeilbgaaS16
set_option linter.all false
set_option linter.unusedSimpArgs false
set_option linter.unusedVariables false
namespace Go.Proofs.Ytkhkagjbeilbgaa
open Go Go.Sl
attribute [local irreducible] W
open Go.Script

theorem prefix_ne {l m : List Int} (h : l.length = m.length) {i : Nat} (hi : i < l.length) (hne : ¬ l.getD i 0 = m.getD i 0) : ¬ l = m := fun e => hne (by rw [e])
theorem prefix_eq {l m : List Int} (h : l.length = m.length) (hall : ∀ j, j < l.length → l.getD j 0 = m.getD j 0) : l = m := by
  refine List.ext_getElem h fun i h1 h2 => ?_
  have := hall i h1
  simpa [List.getD, h1, h2] using this
set_option maxHeartbeats 1000000 in
theorem same13_q {w0 : World} {H : Heap} {l m : List Int} {ad ad2 : Option Addr} {cap cap2 : Nat} (hl : l.length ≤ 1000000000) (hrow : Holds w0 H ad (bytesV l)) (hrow2 : Holds w0 H ad2 (bytesV m))  : PureAt Try.prog w0 H 17 [.slice ad l.length cap, .slice ad2 m.length cap2] (.bool (decide (l = m))) := by
  refine L_enter Try.func17 rfl Try.ntmps17 rfl rfl ?_
  refine W_sr ?_
  refine W_assign rfl rfl ?_
  refine W_nil ?_
  refine W_seq ?_
  refine W_sr ?_
  refine W_move rfl rfl ?_
  refine W_len rfl ty22 rfl rfl ?_
  refine W_move rfl rfl ?_
  refine W_len rfl ty22 rfl rfl ?_
  refine W_bin rfl rfl b_neq rfl ?_
  refine W_nil ?_
  refine W_condPS (p := ¬ l.length = m.length) rfl (by simp; omega) (fun c0 => ?_) (fun c0 => ?_)
  · skip
    refine W_sr ?_
    refine W_assign rfl rfl ?_
    refine W_nil ?_
    refine W_ret1m (H2 := H) Try.results17 rfl (.nil _) (by repeat (first | exact HSub.refl _ | refine HSub.cons (by repeat (first | exact Take.here _ | apply Take.next | apply Take.app)) ?_ | refine HSub.app (by repeat (first | exact TakeS.here _ | apply TakeS.next | apply TakeS.app)) ?_ | refine HSub.drop ?_ | refine HSub.dropS ?_ | exact HSub.nil _)) ?_
    exact ⟨congrArg Value.bool (Eq.symm (decide_eq_false (fun e => c0 (by rw [e])))), rfl⟩
  · skip
    refine W_skip ?_
    refine W_seq ?_
    refine W_sr ?_
    refine W_assign rfl rfl ?_
    refine W_nil ?_
    refine W_block ?_
    have hlm : l.length = m.length := by simpa using c0
    refine W_loopC (X := Nat) [(0, _), (1, _)] (fun (i : Nat) => [(5, .int .i64 (i : Int))]) (fun _ => _) (fun (i : Nat) => H) (fun (i : Nat) => i ≤ l.length ∧ ∀ j, j < i → l.getD j 0 = m.getD j 0) (fun (i : Nat) => l.length - i) 0 ⟨Nat.zero_le _, fun j hj => by omega⟩ (sub_cons rfl (sub_cons rfl (sub_nil _))) (sub_cons rfl (sub_nil _)) rfl (by repeat (first | exact HSub.refl _ | refine HSub.cons (by repeat (first | exact Take.here _ | apply Take.next | apply Take.app)) ?_ | refine HSub.app (by repeat (first | exact TakeS.here _ | apply TakeS.next | apply TakeS.app)) ?_ | refine HSub.drop ?_ | refine HSub.dropS ?_ | exact HSub.nil _)) ?_
    rintro i ⟨hi, hall⟩
    simp only [List.cons_append, List.nil_append]
    refine W_seq ?_
    refine W_sr ?_
    refine W_move rfl rfl ?_
    refine W_move rfl rfl ?_
    refine W_len rfl ty22 rfl rfl ?_
    refine W_bin rfl rfl b_lss rfl ?_
    refine W_nil ?_
    refine W_condPS (p := (i : Int) < (l.length : Int)) rfl (by simp) (fun c1 => ?_) (fun c1 => ?_)
    · skip
      refine W_skip ?_
      refine W_seq ?_
      refine W_block ?_
      refine W_quietsr (by kernel_rfl) (by decide +kernel) ?_
      obtain ⟨b0, o0, rfl, hc0⟩ := hrow.at (i := i) (v := .int .u8 (l.getD i 0)) (bytesV_get (by omega))
      obtain ⟨b2, o2, rfl, hc2⟩ := hrow2.at (i := i) (v := .int .u8 (m.getD i 0)) (bytesV_get (by omega))
      refine WQ_x (X_move rfl) rfl ?_
      refine WQ_x (X_move rfl) rfl ?_
      refine WQ_x (X_indexAddr (j := i) rfl rfl ty22 ty5 (by first | rfl | omega) (by first | decide | omega | simp) rfl) rfl ?_
      refine WQ_x (X_load rfl ty5 rfl (v := .int .u8 (l.getD i 0)) (by rw [Nat.mul_one]; exact hc0.up (by repeat (first | exact HSub.refl _ | refine HSub.cons (by repeat (first | exact Take.here _ | apply Take.next | apply Take.app)) ?_ | refine HSub.app (by repeat (first | exact TakeS.here _ | apply TakeS.next | apply TakeS.app)) ?_ | refine HSub.drop ?_ | refine HSub.dropS ?_ | exact HSub.nil _)))) rfl ?_
      refine WQ_x (X_move rfl) rfl ?_
      refine WQ_x (X_move rfl) rfl ?_
      refine WQ_x (X_indexAddr (j := i) rfl rfl ty22 ty5 (by first | rfl | omega) (by first | decide | omega | simp) rfl) rfl ?_
      refine WQ_x (X_load rfl ty5 rfl (v := .int .u8 (m.getD i 0)) (by rw [Nat.mul_one]; exact hc2.up (by repeat (first | exact HSub.refl _ | refine HSub.cons (by repeat (first | exact Take.here _ | apply Take.next | apply Take.app)) ?_ | refine HSub.app (by repeat (first | exact TakeS.here _ | apply TakeS.next | apply TakeS.app)) ?_ | refine HSub.drop ?_ | refine HSub.dropS ?_ | exact HSub.nil _)))) rfl ?_
      refine WQ_x (X_bin rfl rfl b_neq) rfl ?_
      refine WQ_nil ?_
      refine W_condPS (p := ¬ l.getD i 0 = m.getD i 0) rfl (by simp) (fun c2 => ?_) (fun c2 => ?_)
      · skip
        refine W_sr ?_
        refine W_assign rfl rfl ?_
        refine W_nil ?_
        refine W_ret1m (H2 := H) Try.results17 rfl (.nil _) (by repeat (first | exact HSub.refl _ | refine HSub.cons (by repeat (first | exact Take.here _ | apply Take.next | apply Take.app)) ?_ | refine HSub.app (by repeat (first | exact TakeS.here _ | apply TakeS.next | apply TakeS.app)) ?_ | refine HSub.drop ?_ | refine HSub.dropS ?_ | exact HSub.nil _)) ?_
        exact ⟨congrArg Value.bool (Eq.symm (decide_eq_false (prefix_ne hlm (by omega) c2))), rfl⟩
      · skip
        refine W_skip ?_
        refine W_blk ?_
        refine W_region ?_
        refine W_move rfl rfl ?_
        refine W_bin rfl rfl (b_add (m := ((i + 1 : Nat) : Int)) ((i64w (by omega)).trans (by omega))) rfl ?_
        refine W_assign rfl rfl ?_
        refine W_nil ?_
        refine W_again (i + 1) ⟨by omega, fun j hj => by
          rcases (show j < i ∨ j = i by omega) with h | rfl
          · exact hall j h
          · exact Decidable.not_not.1 c2⟩ (by omega) (sub_cons rfl (sub_cons rfl (sub_cons rfl (sub_nil _)))) rfl (by repeat (first | exact HSub.refl _ | refine HSub.cons (by repeat (first | exact Take.here _ | apply Take.next | apply Take.app)) ?_ | refine HSub.app (by repeat (first | exact TakeS.here _ | apply TakeS.next | apply TakeS.app)) ?_ | refine HSub.drop ?_ | refine HSub.dropS ?_ | exact HSub.nil _))
    · skip
      refine W_exit rfl ?_
      refine W_sr ?_
      refine W_assign rfl rfl ?_
      refine W_nil ?_
      refine W_ret1m (H2 := H) Try.results17 rfl (.nil _) (by repeat (first | exact HSub.refl _ | refine HSub.cons (by repeat (first | exact Take.here _ | apply Take.next | apply Take.app)) ?_ | refine HSub.app (by repeat (first | exact TakeS.here _ | apply TakeS.next | apply TakeS.app)) ?_ | refine HSub.drop ?_ | refine HSub.dropS ?_ | exact HSub.nil _)) ?_
      exact ⟨congrArg Value.bool (Eq.symm (decide_eq_true (prefix_eq hlm (fun j hj => hall j (by omega))))), rfl⟩

def Sr.cut (r : Sr) : Sr := ⟨{ r.st with raw := r.st.raw.take 600 }, r.ad, r.cap⟩
theorem Sr.cut_ok {w0 : World} {H : Heap} {r : Sr} (h : SrOk w0 H r) : SrOk w0 H r.cut := ⟨⟨h.st.kind, h.st.a, h.st.b, h.st.c, h.st.x, h.st.y, h.st.raw.take 600⟩, by show Holds w0 H r.ad (bytesV (r.st.raw.take 600)); rw [bytesV_take]; exact h.holds.take 600⟩
theorem cut_len (r : Sr) : r.cut.st.raw.length ≤ 600 := by show (r.st.raw.take 600).length ≤ 600; rw [List.length_take]; omega
set_option maxHeartbeats 1000000 in
theorem cut_pure (r : Sr) (hc : r.st.raw.length ≤ r.cap) : Pure Try.prog (fun _ => True) 11 [.agg r.cells.toArray] (.agg r.cut.cells.toArray) := by
  intro w0 H hT
  refine L_enter Try.func11 rfl Try.ntmps11 rfl rfl ?_
  refine W_sr ?_
  refine W_box rfl rfl rfl (fun b1 => ?_)
  refine W_alloc ty33 rfl rfl (fun b2 => ?_)
  refine W_nil ?_
  refine W_sr ?_
  refine W_fieldAddr rfl fld33_6 (by decide) rfl ?_
  refine W_load rfl ty22 rfl (Cell.own (by repeat (first | exact List.mem_cons_self | apply List.mem_cons_of_mem | apply List.mem_append_right)) rfl) rfl ?_
  refine W_fieldAddr rfl fld33_6 (by decide) rfl ?_
  refine W_load rfl ty22 rfl (Cell.own (by repeat (first | exact List.mem_cons_self | apply List.mem_cons_of_mem | apply List.mem_append_right)) rfl) rfl ?_
  refine W_len rfl ty22 rfl rfl ?_
  refine W_min2 rfl rfl (m := ((min r.st.raw.length 600 : Nat) : Int)) (by split <;> omega) rfl ?_
  refine W_slice0 (hh := min r.st.raw.length 600) rfl ty22 ty5 rfl ⟨_, rfl⟩ (by omega) rfl ?_
  refine W_fieldAddr rfl fld33_6 (by decide) rfl ?_
  refine W_store rfl rfl ty22 rfl rfl (by repeat (first | exact List.mem_cons_self | apply List.mem_cons_of_mem | apply List.mem_append_right)) rfl rfl (by repeat (first | exact Upd.head _ | apply Upd.tail | apply Upd.app)) ?_
  refine W_nil ?_
  refine W_sr ?_
  refine W_loadB rfl ty33 rfl (by repeat (first | exact List.mem_cons_self | apply List.mem_cons_of_mem | apply List.mem_append_right)) rfl (by simp only [fillL, spliceL, Value.cells, List.take_zero, List.take_succ_cons, List.take_nil, List.drop_zero, List.drop_succ_cons, List.drop_nil, List.nil_append, List.cons_append, List.append_nil, List.length_cons, List.length_nil, Nat.zero_add, Nat.reduceAdd, List.toList_toArray]; rfl) rfl ?_
  refine W_storeA rfl rfl ty33 rfl rfl (by repeat (first | exact List.mem_cons_self | apply List.mem_cons_of_mem | apply List.mem_append_right)) (Nat.le_of_ble_eq_true rfl) (by simp only [fillL, spliceL, Value.cells, List.take_zero, List.take_succ_cons, List.take_nil, List.drop_zero, List.drop_succ_cons, List.drop_nil, List.nil_append, List.cons_append, List.append_nil, List.length_cons, List.length_nil, Nat.zero_add, Nat.reduceAdd, List.toList_toArray]; rfl) (by repeat (first | exact Upd.head _ | apply Upd.tail | apply Upd.app)) ?_
  refine W_nil ?_
  refine W_ret1cO (H2 := H) Try.results11 rfl (.nil _) ty33 rfl (by repeat (first | exact List.mem_cons_self | apply List.mem_cons_of_mem | apply List.mem_append_right)) rfl (by repeat (first | exact HSub.refl _ | refine HSub.cons (by repeat (first | exact Take.here _ | apply Take.next | apply Take.app)) ?_ | refine HSub.app (by repeat (first | exact TakeS.here _ | apply TakeS.next | apply TakeS.app)) ?_ | refine HSub.drop ?_ | refine HSub.dropS ?_ | exact HSub.nil _)) ?_
  refine ⟨?_, rfl⟩
  show Value.agg _ = Value.agg (stV _ (.slice r.ad (r.st.raw.take 600).length r.cap)).toArray
  rw [show (r.st.raw.take 600).length = min r.st.raw.length 600 from by rw [List.length_take, Nat.min_comm]]
  rfl
set_option maxHeartbeats 1000000 in
theorem to_pure (r : Sr) : Pure Try.prog (fun _ => True) 12 [.agg r.cells.toArray] (.agg r.cells.toArray) := by
  intro w0 H hT
  refine L_enter Try.func12 rfl Try.ntmps12 rfl rfl ?_
  refine W_sr ?_
  refine W_box rfl rfl rfl (fun b1 => ?_)
  refine W_alloc ty29 rfl rfl (fun b2 => ?_)
  refine W_nil ?_
  refine W_sr ?_
  refine W_fieldAddr rfl fld33_0 (by decide) rfl ?_
  refine W_load rfl ty3 rfl (Cell.own (by repeat (first | exact List.mem_cons_self | apply List.mem_cons_of_mem | apply List.mem_append_right)) rfl) rfl ?_
  refine W_fieldAddr rfl fld33_1 (by decide) rfl ?_
  refine W_load rfl ty3 rfl (Cell.own (by repeat (first | exact List.mem_cons_self | apply List.mem_cons_of_mem | apply List.mem_append_right)) rfl) rfl ?_
  refine W_fieldAddr rfl fld33_2 (by decide) rfl ?_
  refine W_load rfl ty3 rfl (Cell.own (by repeat (first | exact List.mem_cons_self | apply List.mem_cons_of_mem | apply List.mem_append_right)) rfl) rfl ?_
  refine W_fieldAddr rfl fld33_3 (by decide) rfl ?_
  refine W_load rfl ty3 rfl (Cell.own (by repeat (first | exact List.mem_cons_self | apply List.mem_cons_of_mem | apply List.mem_append_right)) rfl) rfl ?_
  refine W_fieldAddr rfl fld33_4 (by decide) rfl ?_
  refine W_load rfl ty27 rfl (Cell.own (by repeat (first | exact List.mem_cons_self | apply List.mem_cons_of_mem | apply List.mem_append_right)) rfl) rfl ?_
  refine W_fieldAddr rfl fld33_5 (by decide) rfl ?_
  refine W_load rfl ty27 rfl (Cell.own (by repeat (first | exact List.mem_cons_self | apply List.mem_cons_of_mem | apply List.mem_append_right)) rfl) rfl ?_
  refine W_fieldAddr rfl fld33_6 (by decide) rfl ?_
  refine W_load rfl ty22 rfl (Cell.own (by repeat (first | exact List.mem_cons_self | apply List.mem_cons_of_mem | apply List.mem_append_right)) rfl) rfl ?_
  refine W_build ty29 pl29 (.cons rfl rfl rfl rfl rfl (.cons rfl rfl rfl rfl rfl (.cons rfl rfl rfl rfl rfl (.cons rfl rfl rfl rfl rfl (.cons rfl rfl rfl rfl rfl (.cons rfl rfl rfl rfl rfl (.cons rfl rfl rfl rfl rfl .nil))))))) rfl (by simp only [fillL, spliceL, Value.cells, List.take_zero, List.take_succ_cons, List.take_nil, List.drop_zero, List.drop_succ_cons, List.drop_nil, List.nil_append, List.cons_append, List.append_nil, List.length_cons, List.length_nil, Nat.zero_add, Nat.reduceAdd, List.toList_toArray]; rfl) rfl ?_
  refine W_storeA rfl rfl ty29 rfl rfl (by repeat (first | exact List.mem_cons_self | apply List.mem_cons_of_mem | apply List.mem_append_right)) (Nat.le_of_ble_eq_true rfl) (by simp only [fillL, spliceL, Value.cells, List.take_zero, List.take_succ_cons, List.take_nil, List.drop_zero, List.drop_succ_cons, List.drop_nil, List.nil_append, List.cons_append, List.append_nil, List.length_cons, List.length_nil, Nat.zero_add, Nat.reduceAdd, List.toList_toArray]; rfl) (by repeat (first | exact Upd.head _ | apply Upd.tail | apply Upd.app)) ?_
  refine W_nil ?_
  refine W_ret1cO (H2 := H) Try.results12 rfl (.nil _) ty29 rfl (by repeat (first | exact List.mem_cons_self | apply List.mem_cons_of_mem | apply List.mem_append_right)) rfl (by repeat (first | exact HSub.refl _ | refine HSub.cons (by repeat (first | exact Take.here _ | apply Take.next | apply Take.app)) ?_ | refine HSub.app (by repeat (first | exact TakeS.here _ | apply TakeS.next | apply TakeS.app)) ?_ | refine HSub.drop ?_ | refine HSub.dropS ?_ | exact HSub.nil _)) ?_
  exact ⟨rfl, rfl⟩

theorem same13_eq {w0 : World} {H : Heap} {l m : List Int} {ad ad2 : Option Addr} {cap cap2 : Nat} (h : l = m) (hl : l.length ≤ 1000000000) (hrow : Holds w0 H ad (bytesV l)) (hrow2 : Holds w0 H ad2 (bytesV m)) : PureAt Try.prog w0 H 17 [.slice ad l.length cap, .slice ad2 m.length cap2] (.bool true) := by
  have := same13_q (cap := cap) (cap2 := cap2) hl hrow hrow2
  rwa [decide_eq_true h] at this
set_option maxHeartbeats 1000000 in
theorem sameS_q {w0 : World} {H : Heap} {a b : Sr} (hst : a.st = b.st) (hl : a.st.raw.length ≤ 1000000000) (ha : SrOk w0 H a) (hb : SrOk w0 H b)  : PureAt Try.prog w0 H 9 [.agg a.cells.toArray, .agg b.cells.toArray] (.bool true) := by
  have hraw : a.st.raw = b.st.raw := by rw [hst]
  refine L_enter Try.func9 rfl Try.ntmps9 rfl rfl ?_
  refine W_sr ?_
  refine W_box rfl rfl rfl (fun b2 => ?_)
  refine W_box rfl rfl rfl (fun b3 => ?_)
  refine W_assign rfl rfl ?_
  refine W_nil ?_
  refine W_sr ?_
  refine W_fieldAddr rfl fld29_0 (by decide) rfl ?_
  refine W_load rfl ty3 rfl (Cell.own (by repeat (first | exact List.mem_cons_self | apply List.mem_cons_of_mem | apply List.mem_append_right)) rfl) rfl ?_
  refine W_fieldAddr rfl fld33_0 (by decide) rfl ?_
  refine W_load rfl ty3 rfl (Cell.own (by repeat (first | exact List.mem_cons_self | apply List.mem_cons_of_mem | apply List.mem_append_right)) rfl) rfl ?_
  refine W_bin rfl rfl b_eql rfl ?_
  rw [decide_eq_true (by rw [hst])]
  refine W_move rfl rfl ?_
  refine W_gyes rfl rfl ?_
  refine W_fieldAddr rfl fld29_1 (by decide) rfl ?_
  refine W_gyes rfl rfl ?_
  refine W_load rfl ty3 rfl (Cell.own (by repeat (first | exact List.mem_cons_self | apply List.mem_cons_of_mem | apply List.mem_append_right)) rfl) rfl ?_
  refine W_gyes rfl rfl ?_
  refine W_fieldAddr rfl fld33_1 (by decide) rfl ?_
  refine W_gyes rfl rfl ?_
  refine W_load rfl ty3 rfl (Cell.own (by repeat (first | exact List.mem_cons_self | apply List.mem_cons_of_mem | apply List.mem_append_right)) rfl) rfl ?_
  refine W_gyes rfl rfl ?_
  refine W_bin rfl rfl b_eql rfl ?_
  rw [decide_eq_true (by rw [hst])]
  first | refine W_pickt rfl rfl rfl ?_ | refine W_pickf rfl rfl rfl ?_
  refine W_move rfl rfl ?_
  refine W_gyes rfl rfl ?_
  refine W_fieldAddr rfl fld29_2 (by decide) rfl ?_
  refine W_gyes rfl rfl ?_
  refine W_load rfl ty3 rfl (Cell.own (by repeat (first | exact List.mem_cons_self | apply List.mem_cons_of_mem | apply List.mem_append_right)) rfl) rfl ?_
  refine W_gyes rfl rfl ?_
  refine W_fieldAddr rfl fld33_2 (by decide) rfl ?_
  refine W_gyes rfl rfl ?_
  refine W_load rfl ty3 rfl (Cell.own (by repeat (first | exact List.mem_cons_self | apply List.mem_cons_of_mem | apply List.mem_append_right)) rfl) rfl ?_
  refine W_gyes rfl rfl ?_
  refine W_bin rfl rfl b_eql rfl ?_
  rw [decide_eq_true (by rw [hst])]
  first | refine W_pickt rfl rfl rfl ?_ | refine W_pickf rfl rfl rfl ?_
  refine W_move rfl rfl ?_
  refine W_gyes rfl rfl ?_
  refine W_fieldAddr rfl fld29_3 (by decide) rfl ?_
  refine W_gyes rfl rfl ?_
  refine W_load rfl ty3 rfl (Cell.own (by repeat (first | exact List.mem_cons_self | apply List.mem_cons_of_mem | apply List.mem_append_right)) rfl) rfl ?_
  refine W_gyes rfl rfl ?_
  refine W_fieldAddr rfl fld33_3 (by decide) rfl ?_
  refine W_gyes rfl rfl ?_
  refine W_load rfl ty3 rfl (Cell.own (by repeat (first | exact List.mem_cons_self | apply List.mem_cons_of_mem | apply List.mem_append_right)) rfl) rfl ?_
  refine W_gyes rfl rfl ?_
  refine W_bin rfl rfl b_eql rfl ?_
  rw [decide_eq_true (by rw [hst])]
  first | refine W_pickt rfl rfl rfl ?_ | refine W_pickf rfl rfl rfl ?_
  refine W_move rfl rfl ?_
  refine W_gyes rfl rfl ?_
  refine W_fieldAddr rfl fld29_4 (by decide) rfl ?_
  refine W_gyes rfl rfl ?_
  refine W_load rfl ty27 rfl (Cell.own (by repeat (first | exact List.mem_cons_self | apply List.mem_cons_of_mem | apply List.mem_append_right)) rfl) rfl ?_
  refine W_gyes rfl rfl ?_
  refine W_fieldAddr rfl fld33_4 (by decide) rfl ?_
  refine W_gyes rfl rfl ?_
  refine W_load rfl ty27 rfl (Cell.own (by repeat (first | exact List.mem_cons_self | apply List.mem_cons_of_mem | apply List.mem_append_right)) rfl) rfl ?_
  refine W_gyes rfl rfl ?_
  refine W_bin rfl rfl b_eql rfl ?_
  rw [decide_eq_true (by rw [hst])]
  first | refine W_pickt rfl rfl rfl ?_ | refine W_pickf rfl rfl rfl ?_
  refine W_move rfl rfl ?_
  refine W_gyes rfl rfl ?_
  refine W_fieldAddr rfl fld29_5 (by decide) rfl ?_
  refine W_gyes rfl rfl ?_
  refine W_load rfl ty27 rfl (Cell.own (by repeat (first | exact List.mem_cons_self | apply List.mem_cons_of_mem | apply List.mem_append_right)) rfl) rfl ?_
  refine W_gyes rfl rfl ?_
  refine W_fieldAddr rfl fld33_5 (by decide) rfl ?_
  refine W_gyes rfl rfl ?_
  refine W_load rfl ty27 rfl (Cell.own (by repeat (first | exact List.mem_cons_self | apply List.mem_cons_of_mem | apply List.mem_append_right)) rfl) rfl ?_
  refine W_gyes rfl rfl ?_
  refine W_bin rfl rfl b_eql rfl ?_
  rw [decide_eq_true (by rw [hst])]
  first | refine W_pickt rfl rfl rfl ?_ | refine W_pickf rfl rfl rfl ?_
  refine W_move rfl rfl ?_
  refine W_gyes rfl rfl ?_
  refine W_fieldAddr rfl fld29_6 (by decide) rfl ?_
  refine W_gyes rfl rfl ?_
  refine W_load rfl ty22 rfl (Cell.own (by repeat (first | exact List.mem_cons_self | apply List.mem_cons_of_mem | apply List.mem_append_right)) rfl) rfl ?_
  refine W_gyes rfl rfl ?_
  refine W_fieldAddr rfl fld33_6 (by decide) rfl ?_
  refine W_gyes rfl rfl ?_
  refine W_load rfl ty22 rfl (Cell.own (by repeat (first | exact List.mem_cons_self | apply List.mem_cons_of_mem | apply List.mem_append_right)) rfl) rfl ?_
  refine W_gyes rfl rfl ?_
  refine W_callq (.cons rfl (.cons rfl .nil)) Try.call17 rfl (same13_eq hraw hl (ha.holds.up (by repeat (first | exact HSub.refl _ | refine HSub.cons (by repeat (first | exact Take.here _ | apply Take.next | apply Take.app)) ?_ | refine HSub.app (by repeat (first | exact TakeS.here _ | apply TakeS.next | apply TakeS.app)) ?_ | refine HSub.drop ?_ | refine HSub.dropS ?_ | exact HSub.nil _))) (hb.holds.up (by repeat (first | exact HSub.refl _ | refine HSub.cons (by repeat (first | exact Take.here _ | apply Take.next | apply Take.app)) ?_ | refine HSub.app (by repeat (first | exact TakeS.here _ | apply TakeS.next | apply TakeS.app)) ?_ | refine HSub.drop ?_ | refine HSub.dropS ?_ | exact HSub.nil _)))) ?_
  first | refine W_pickt rfl rfl rfl ?_ | refine W_pickf rfl rfl rfl ?_
  refine W_assign rfl rfl ?_
  refine W_nil ?_
  refine W_ret1m (H2 := H) Try.results9 rfl (.nil _) (by repeat (first | exact HSub.refl _ | refine HSub.cons (by repeat (first | exact Take.here _ | apply Take.next | apply Take.app)) ?_ | refine HSub.app (by repeat (first | exact TakeS.here _ | apply TakeS.next | apply TakeS.app)) ?_ | refine HSub.drop ?_ | refine HSub.dropS ?_ | exact HSub.nil _)) ?_
  exact ⟨rfl, rfl⟩

def ks : List Sr := [⟨⟨1, 2, 5, 0, 0, 0, []⟩, none, 0⟩, ⟨⟨15, 0, 0, 0, 0, 0, []⟩, none, 0⟩, ⟨⟨8, 1, 0, 256, 7, 0, []⟩, none, 0⟩]
def kb : List Int := [99, 1, 0, 7, 15, 0, 0, 1]
def ke : List Int := [1, 2, 0, 2, 5, 15, 0, 0, 8, 12, 0, 1, 0, 0, 1, 7, 0, 0, 0, 0, 0, 0, 0]
theorem ks_chk : ∀ s ∈ ks.map Sr.st, chk s = 0 := by decide +kernel
theorem ks_enc : encs (ks.map Sr.st) = ke := by decide +kernel
theorem kb_parse : parse kb = [⟨0, zeroS, 11⟩, ⟨4, ⟨15, 0, 0, 0, 0, 0, []⟩, 0⟩, ⟨7, zeroS, 10⟩] := by decide +kernel
def okI (m : Int) : Bool := decide (-9223372036854775808 ≤ m) && decide (m ≤ 9223372036854775807)
def okW (m : Int) : Bool := decide (0 ≤ m) && decide (m < 18446744073709551616)
def okB (l : List Int) : Bool := l.all fun b => decide (0 ≤ b) && decide (b < 256)
theorem bytes_of {l : List Int} (h : okB l = true) : Go.Script.Bytes l := fun b hb => by have := List.all_eq_true.1 h b hb; simpa using this
theorem st_of {s : St} (h : (okI s.kind && okI s.a && okI s.b && okI s.c && okW s.x && okW s.y && okB s.raw) = true) : StOk s := by
  simp only [Bool.and_eq_true] at h
  obtain ⟨⟨⟨⟨⟨⟨h1, h2⟩, h3⟩, h4⟩, h5⟩, h6⟩, h7⟩ := h
  have i : ∀ {m}, okI m = true → I64 m := fun h => by unfold okI at h; simpa [I64] using h
  have w : ∀ {m}, okW m = true → Wd m := fun h => by unfold okW at h; simpa [Wd] using h
  exact ⟨i h1, i h2, i h3, i h4, w h5, w h6, bytes_of h7⟩
theorem ks_ok {w0 : World} {H : Heap} : ∀ x ∈ ks, SrOk w0 H x := fun x hx => by
  have h : ∀ x ∈ ks, (okI x.st.kind && okI x.st.a && okI x.st.b && okI x.st.c && okW x.st.x && okW x.st.y && okB x.st.raw) = true ∧ x.st.raw = [] := by decide +kernel
  refine ⟨st_of (h x hx).1, ?_⟩
  rw [(h x hx).2]; exact Holds.nil
theorem first_none {l : List Sr} {e : Int} (h : ∀ s ∈ l.map Sr.st, chk s = 0) : ¬ FirstE l e := by
  rintro ⟨i, x, hx, _, hne, _⟩
  exact hne (h _ (List.mem_map.2 ⟨x, List.mem_of_getElem? hx, rfl⟩))
theorem three {es : List Er} (h : es.map Er.en = parse kb) : ∃ e0 e1 e2, es = [e0, e1, e2] ∧ e0.err = 11 ∧ e1.at_ = 4 ∧ e1.err = 0 ∧ e1.r.st.kind = 15 ∧ e2.at_ = 7 ∧ e2.err = 10 := by
  rw [kb_parse] at h
  match es, h with
  | [e0, e1, e2], h =>
    simp only [List.map_cons, List.map_nil, List.cons.injEq, Er.en, En.mk.injEq, and_true] at h
    exact ⟨e0, e1, e2, rfl, h.1.2.2, h.2.1.1, h.2.1.2.2, by rw [h.2.1.2.1], h.2.2.1, h.2.2.2.2⟩
  | [], h => simp at h
  | [_], h => simp at h
  | [_, _], h => simp at h
  | _ :: _ :: _ :: _ :: _, h => simp at h
set_option maxHeartbeats 4000000 in
theorem known_pure  : Pure Try.prog (fun _ => True) 10 [] (.bool true) := by
  intro w0 H hT
  refine L_enter Try.func10 rfl Try.ntmps10 rfl rfl ?_
  refine W_sr ?_
  refine W_assign rfl rfl ?_
  refine W_nil ?_
  refine W_sr ?_
  refine W_build (l := stV ⟨1, 2, 5, 0, 0, 0, []⟩ (.slice none 0 0)) ty29 pl29 (.cons rfl rfl rfl rfl rfl (.cons rfl rfl rfl rfl rfl (.cons rfl rfl rfl rfl rfl .nil))) rfl rfl rfl ?_
  refine W_build (l := stV ⟨15, 0, 0, 0, 0, 0, []⟩ (.slice none 0 0)) ty29 pl29 (.cons rfl rfl rfl rfl rfl .nil) rfl rfl rfl ?_
  refine W_build (l := stV ⟨8, 1, 0, 256, 7, 0, []⟩ (.slice none 0 0)) ty29 pl29 (.cons rfl rfl rfl rfl rfl (.cons rfl rfl rfl rfl rfl (.cons rfl rfl rfl rfl rfl (.cons rfl rfl rfl rfl rfl .nil)))) rfl rfl rfl ?_
  refine W_buildSlice (l := srRow ks) ty40 ty29 (.cons rfl rfl rfl rfl rfl (.cons rfl rfl rfl rfl rfl (.cons rfl rfl rfl rfl rfl .nil))) rfl rfl rfl rfl rfl rfl rfl (fun b8 => ?_)
  refine W_call (.cons rfl .nil) Try.call15 rfl (bytes_L (l := ks) (by decide) ks_ok (Holds.own (by repeat (first | exact List.mem_cons_self | apply List.mem_cons_of_mem | apply List.mem_append_right)))) ?_
  rintro v H' (⟨e, hF, _, _⟩ | ⟨_, sv, HB, hO, rfl, rfl⟩)
  · exact absurd hF (first_none ks_chk)
  rw [ks_enc] at hO
  obtain ⟨a1, c1, rfl, _, _, hh1⟩ := Holds.of_own (w0 := w0) (H := HB ++ []) hO (fun p hp => List.mem_append_left _ hp)
  refine W_move rfl rfl ?_
  refine W_extract rfl rfl rfl ?_
  refine W_extract rfl rfl rfl ?_
  refine W_assign rfl rfl ?_
  refine W_assign rfl rfl ?_
  refine W_nil ?_
  refine W_sr ?_
  refine W_buildSlice (l := bytesV kb) ty22 ty5 (.cons rfl rfl rfl rfl rfl (.cons rfl rfl rfl rfl rfl (.cons rfl rfl rfl rfl rfl (.cons rfl rfl rfl rfl rfl (.cons rfl rfl rfl rfl rfl (.cons rfl rfl rfl rfl rfl (.cons rfl rfl rfl rfl rfl (.cons rfl rfl rfl rfl rfl .nil)))))))) rfl rfl rfl rfl rfl rfl rfl (fun b12 => ?_)
  refine W_call (.cons rfl .nil) Try.call7 rfl (parse_L (b := kb) (bytes_of (by decide +kernel)) (by decide) (by decide) (Holds.own (by repeat (first | exact List.mem_cons_self | apply List.mem_cons_of_mem | apply List.mem_append_right)))) ?_
  rintro v H' ⟨es, HB2, HX, hes, hO2, hok, rfl⟩
  obtain ⟨e0, e1, e2, rfl, k1, k2, k3, k4, k5, k6⟩ := three hes
  obtain ⟨a2, c2, rfl, _, _, hh2⟩ := Holds.of_own (w0 := w0) (H := HB2 ++ []) hO2 (fun p hp => List.mem_append_left _ hp)
  obtain ⟨q0, o0, rfl, hc0⟩ := hh2.row er_len (by decide) (i := 0) (x := e0) rfl
  obtain ⟨_, _, e9, hc1⟩ := hh2.row er_len (by decide) (i := 1) (x := e1) rfl
  cases e9
  obtain ⟨_, _, e9, hc2⟩ := hh2.row er_len (by decide) (i := 2) (x := e2) rfl
  cases e9
  refine W_assign rfl rfl ?_
  refine W_nil ?_
  refine W_sr ?_
  refine W_move rfl rfl ?_
  refine W_bin rfl rfl b_eql rfl ?_
  refine W_move rfl rfl ?_
  refine W_gyes rfl rfl ?_
  refine W_move rfl rfl ?_
  refine W_gyes rfl rfl ?_
  refine W_buildSlice (l := bytesV ke) ty22 ty5 (.cons rfl rfl rfl rfl rfl (.cons rfl rfl rfl rfl rfl (.cons rfl rfl rfl rfl rfl (.cons rfl rfl rfl rfl rfl (.cons rfl rfl rfl rfl rfl (.cons rfl rfl rfl rfl rfl (.cons rfl rfl rfl rfl rfl (.cons rfl rfl rfl rfl rfl (.cons rfl rfl rfl rfl rfl (.cons rfl rfl rfl rfl rfl (.cons rfl rfl rfl rfl rfl (.cons rfl rfl rfl rfl rfl (.cons rfl rfl rfl rfl rfl (.cons rfl rfl rfl rfl rfl (.cons rfl rfl rfl rfl rfl (.cons rfl rfl rfl rfl rfl (.cons rfl rfl rfl rfl rfl (.cons rfl rfl rfl rfl rfl (.cons rfl rfl rfl rfl rfl (.cons rfl rfl rfl rfl rfl (.cons rfl rfl rfl rfl rfl (.cons rfl rfl rfl rfl rfl (.cons rfl rfl rfl rfl rfl .nil))))))))))))))))))))))) rfl rfl rfl rfl rfl rfl rfl (fun b18 => ?_)
  refine W_gyes rfl rfl ?_
  refine W_callq (.cons rfl (.cons rfl .nil)) Try.call17 rfl (same13_eq (l := ke) (m := ke) rfl (by decide) (hh1.up (by repeat (first | exact HSub.refl _ | refine HSub.cons (by repeat (first | exact Take.here _ | apply Take.next | apply Take.app)) ?_ | refine HSub.app (by repeat (first | exact TakeS.here _ | apply TakeS.next | apply TakeS.app)) ?_ | refine HSub.drop ?_ | refine HSub.dropS ?_ | exact HSub.nil _))) (Holds.own (by repeat (first | exact List.mem_cons_self | apply List.mem_cons_of_mem | apply List.mem_append_right)))) ?_
  first | refine W_pickt rfl rfl rfl ?_ | refine W_pickf rfl rfl rfl ?_
  refine W_move rfl rfl ?_
  refine W_gyes rfl rfl ?_
  refine W_move rfl rfl ?_
  refine W_gyes rfl rfl ?_
  refine W_len rfl ty23 rfl rfl ?_
  refine W_gyes rfl rfl ?_
  refine W_bin rfl rfl b_eql rfl ?_
  first | refine W_pickt rfl rfl rfl ?_ | refine W_pickf rfl rfl rfl ?_
  refine W_move rfl rfl ?_
  refine W_gyes rfl rfl ?_
  refine W_move rfl rfl ?_
  refine W_gyes rfl rfl ?_
  refine W_indexAddr (j := 0) rfl rfl ty23 ty32 (by first | rfl | omega) (by first | decide | omega | simp) rfl rfl ?_
  refine W_gyes rfl rfl ?_
  refine W_fieldAddr rfl fld32_2 (by decide) rfl ?_
  refine W_gyes rfl rfl ?_
  refine W_load rfl ty30 rfl (v := .int .i64 e0.err) ((hc0 8 _ rfl).up (by repeat (first | exact HSub.refl _ | refine HSub.cons (by repeat (first | exact Take.here _ | apply Take.next | apply Take.app)) ?_ | refine HSub.app (by repeat (first | exact TakeS.here _ | apply TakeS.next | apply TakeS.app)) ?_ | refine HSub.drop ?_ | refine HSub.dropS ?_ | exact HSub.nil _))) rfl ?_
  refine W_gyes rfl rfl ?_
  refine W_bin rfl rfl b_eql rfl ?_
  rw [decide_eq_true (by first | omega | (rw [k1]; done) | (rw [k1]; rfl))]
  first | refine W_pickt rfl rfl rfl ?_ | refine W_pickf rfl rfl rfl ?_
  refine W_move rfl rfl ?_
  refine W_gyes rfl rfl ?_
  refine W_move rfl rfl ?_
  refine W_gyes rfl rfl ?_
  refine W_indexAddr (j := 1) rfl rfl ty23 ty32 (by first | rfl | omega) (by first | decide | omega | simp) rfl rfl ?_
  refine W_gyes rfl rfl ?_
  refine W_fieldAddr rfl fld32_0 (by decide) rfl ?_
  refine W_gyes rfl rfl ?_
  refine W_load rfl ty3 rfl (v := .int .i64 (e1.at_ : Int)) ((hc1 0 _ rfl).up (by repeat (first | exact HSub.refl _ | refine HSub.cons (by repeat (first | exact Take.here _ | apply Take.next | apply Take.app)) ?_ | refine HSub.app (by repeat (first | exact TakeS.here _ | apply TakeS.next | apply TakeS.app)) ?_ | refine HSub.drop ?_ | refine HSub.dropS ?_ | exact HSub.nil _))) rfl ?_
  refine W_gyes rfl rfl ?_
  refine W_bin rfl rfl b_eql rfl ?_
  rw [decide_eq_true (by first | omega | (rw [k2]; done) | (rw [k2]; rfl))]
  first | refine W_pickt rfl rfl rfl ?_ | refine W_pickf rfl rfl rfl ?_
  refine W_move rfl rfl ?_
  refine W_gyes rfl rfl ?_
  refine W_move rfl rfl ?_
  refine W_gyes rfl rfl ?_
  refine W_indexAddr (j := 1) rfl rfl ty23 ty32 (by first | rfl | omega) (by first | decide | omega | simp) rfl rfl ?_
  refine W_gyes rfl rfl ?_
  refine W_fieldAddr rfl fld32_2 (by decide) rfl ?_
  refine W_gyes rfl rfl ?_
  refine W_load rfl ty30 rfl (v := .int .i64 e1.err) ((hc1 8 _ rfl).up (by repeat (first | exact HSub.refl _ | refine HSub.cons (by repeat (first | exact Take.here _ | apply Take.next | apply Take.app)) ?_ | refine HSub.app (by repeat (first | exact TakeS.here _ | apply TakeS.next | apply TakeS.app)) ?_ | refine HSub.drop ?_ | refine HSub.dropS ?_ | exact HSub.nil _))) rfl ?_
  refine W_gyes rfl rfl ?_
  refine W_bin rfl rfl b_eql rfl ?_
  rw [decide_eq_true (by first | omega | (rw [k3]; done) | (rw [k3]; rfl))]
  first | refine W_pickt rfl rfl rfl ?_ | refine W_pickf rfl rfl rfl ?_
  refine W_move rfl rfl ?_
  refine W_gyes rfl rfl ?_
  refine W_move rfl rfl ?_
  refine W_gyes rfl rfl ?_
  refine W_indexAddr (j := 1) rfl rfl ty23 ty32 (by first | rfl | omega) (by first | decide | omega | simp) rfl rfl ?_
  refine W_gyes rfl rfl ?_
  refine W_fieldAddr rfl fld32_1 (by decide) rfl ?_
  refine W_gyes rfl rfl ?_
  refine W_fieldAddr rfl fld29_0 (by decide) rfl ?_
  refine W_gyes rfl rfl ?_
  refine W_load rfl ty3 rfl (v := .int .i64 e1.r.st.kind) ((hc1 1 _ rfl).up (by repeat (first | exact HSub.refl _ | refine HSub.cons (by repeat (first | exact Take.here _ | apply Take.next | apply Take.app)) ?_ | refine HSub.app (by repeat (first | exact TakeS.here _ | apply TakeS.next | apply TakeS.app)) ?_ | refine HSub.drop ?_ | refine HSub.dropS ?_ | exact HSub.nil _))) rfl ?_
  refine W_gyes rfl rfl ?_
  refine W_bin rfl rfl b_eql rfl ?_
  rw [decide_eq_true (by first | omega | (rw [k4]; done) | (rw [k4]; rfl))]
  first | refine W_pickt rfl rfl rfl ?_ | refine W_pickf rfl rfl rfl ?_
  refine W_move rfl rfl ?_
  refine W_gyes rfl rfl ?_
  refine W_move rfl rfl ?_
  refine W_gyes rfl rfl ?_
  refine W_indexAddr (j := 2) rfl rfl ty23 ty32 (by first | rfl | omega) (by first | decide | omega | simp) rfl rfl ?_
  refine W_gyes rfl rfl ?_
  refine W_fieldAddr rfl fld32_0 (by decide) rfl ?_
  refine W_gyes rfl rfl ?_
  refine W_load rfl ty3 rfl (v := .int .i64 (e2.at_ : Int)) ((hc2 0 _ rfl).up (by repeat (first | exact HSub.refl _ | refine HSub.cons (by repeat (first | exact Take.here _ | apply Take.next | apply Take.app)) ?_ | refine HSub.app (by repeat (first | exact TakeS.here _ | apply TakeS.next | apply TakeS.app)) ?_ | refine HSub.drop ?_ | refine HSub.dropS ?_ | exact HSub.nil _))) rfl ?_
  refine W_gyes rfl rfl ?_
  refine W_bin rfl rfl b_eql rfl ?_
  rw [decide_eq_true (by first | omega | (rw [k5]; done) | (rw [k5]; rfl))]
  first | refine W_pickt rfl rfl rfl ?_ | refine W_pickf rfl rfl rfl ?_
  refine W_move rfl rfl ?_
  refine W_gyes rfl rfl ?_
  refine W_move rfl rfl ?_
  refine W_gyes rfl rfl ?_
  refine W_indexAddr (j := 2) rfl rfl ty23 ty32 (by first | rfl | omega) (by first | decide | omega | simp) rfl rfl ?_
  refine W_gyes rfl rfl ?_
  refine W_fieldAddr rfl fld32_2 (by decide) rfl ?_
  refine W_gyes rfl rfl ?_
  refine W_load rfl ty30 rfl (v := .int .i64 e2.err) ((hc2 8 _ rfl).up (by repeat (first | exact HSub.refl _ | refine HSub.cons (by repeat (first | exact Take.here _ | apply Take.next | apply Take.app)) ?_ | refine HSub.app (by repeat (first | exact TakeS.here _ | apply TakeS.next | apply TakeS.app)) ?_ | refine HSub.drop ?_ | refine HSub.dropS ?_ | exact HSub.nil _))) rfl ?_
  refine W_gyes rfl rfl ?_
  refine W_bin rfl rfl b_eql rfl ?_
  rw [decide_eq_true (by first | omega | (rw [k6]; done) | (rw [k6]; rfl))]
  first | refine W_pickt rfl rfl rfl ?_ | refine W_pickf rfl rfl rfl ?_
  refine W_assign rfl rfl ?_
  refine W_nil ?_
  refine W_ret1m (H2 := H) Try.results10 rfl (.nil _) (by repeat (first | exact HSub.refl _ | refine HSub.cons (by repeat (first | exact Take.here _ | apply Take.next | apply Take.app)) ?_ | refine HSub.app (by repeat (first | exact TakeS.here _ | apply TakeS.next | apply TakeS.app)) ?_ | refine HSub.drop ?_ | refine HSub.dropS ?_ | exact HSub.nil _)) ?_
  exact ⟨rfl, rfl⟩
end Go.Proofs.Ytkhkagjbeilbgaa
