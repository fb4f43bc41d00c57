/-
  Own work: contracts of functions that the statement reaches, and plain facts on what they compute; each theorem says its conditions.
-/
import Derived.Test.YtkhkagjbeilbgaaDoorS17
import Derived.Test.YtkhkagjbeilbgaaDoorSlArgs
import Derived.Test.YtkhkagjbeilbgaaDoorShelf
import Derived.WalkSmall
set_option linter.all false
set_option linter.unusedSimpArgs false
set_option linter.unusedVariables false
namespace Go.Proofs.YtkhkagjbeilbgaaDoor
open Go Go.Sl
attribute [local irreducible] W
open Go.Script

/-- strings.asciiSpace, as the rows list it -/
def Tab (w : World) : Prop := Lib.TabIs Tryd.prog w "strings.asciiSpace" .u8 Lib.asciiSpaceTab
theorem ascii_of {l : List UInt8} (h : l.all (fun b => decide (b.toNat < 128)) = true) : ∀ (j : Nat) (b : UInt8), l[j]? = some b → b.toNat < 128 := fun j b hb => by
  have := List.all_eq_true.1 h b (List.mem_of_getElem? hb)
  simpa using this
theorem tab_of {w0 w : World} {H : Heap} (hT : Tab w0) (hs : Sat w0 H w) : Tab w :=
  have hlt : 0 < w0.heap.size := World.block_lt_of_cell? _ _ (hT.cell (g := 0) (by kernel_rfl) 0 (by rw [Lib.asciiSpaceTab_length]; omega))
  var?_below (g := 0) hs.below (by kernel_rfl) hlt hT
def wordsC : ByteArray := ⟨#[116, 105, 99, 107, 32, 112, 105, 99, 107, 32, 98, 114, 105, 110, 103, 32, 98, 114, 101, 97, 107, 32, 101, 118, 105, 99, 116, 32, 112, 111, 107, 101, 32, 108, 111, 97, 100, 32, 109, 97, 107, 101, 32, 114, 117, 110, 32, 112, 117, 116, 32, 100, 114, 111, 112, 32, 102, 105, 110, 100, 32, 102, 114, 101, 101, 32, 101, 110, 116, 101, 114, 32, 101, 120, 105, 116, 32, 115, 121, 110, 99, 32, 98, 97, 114, 114, 105, 101, 114, 32, 117, 110, 108, 111, 97, 100]⟩
theorem fields_words {w0 : World} {H : Heap} (hT : Tab w0) : LCalls Tryd.prog w0 55 #[.string wordsC] H (fun v H' => ∃ b, v = .slice (some ⟨b, 0, none⟩) 18 18 ∧ H' = (b, .cells 9 18 (wordsA.map Value.string)) :: H) := by
  have hf : Lib.fields wordsC.data.toList = [[116, 105, 99, 107], [112, 105, 99, 107], [98, 114, 105, 110, 103], [98, 114, 101, 97, 107], [101, 118, 105, 99, 116], [112, 111, 107, 101], [108, 111, 97, 100], [109, 97, 107, 101], [114, 117, 110], [112, 117, 116], [100, 114, 111, 112], [102, 105, 110, 100], [102, 114, 101, 101], [101, 110, 116, 101, 114], [101, 120, 105, 116], [115, 121, 110, 99], [98, 97, 114, 114, 105, 101, 114], [117, 110, 108, 111, 97, 100]] := by decide +kernel
  have h : ∀ w, Tab w → Calls Tryd.prog 55 #[.string wordsC] w fun en w' => en = .returned (.slice (some ⟨w.heap.size, 0, none⟩) 18 18) ∧ w' = w.alloc (.cells (wordsA.map Value.string).toArray 9) := fun w ht => by
    have := Tryd.strings_Fields wordsC w (by decide +kernel) (ascii_of (by decide +kernel)) ht
    rw [hf] at this
    exact this
  refine (L_of_alloc (g := fun a => .slice (some a) 18 18) h (fun w hs => tab_of hT hs)).mono ?_
  rintro v H' ⟨b, rfl, rfl⟩
  exact ⟨b, rfl, rfl⟩
set_option maxHeartbeats 1000000 in
theorem word_pure (k : Int) : Pure Tryd.prog (Tab) 13 [.int .i64 k] (.string (wordB k)) := by
  intro w0 H hT
  refine L_enter Tryd.func13 rfl Tryd.ntmps13 rfl rfl ?_
  refine W_sr ?_
  refine W_assign rfl rfl ?_
  refine W_nil ?_
  refine W_seq ?_
  refine W_sr ?_
  refine W_move rfl rfl ?_
  refine W_callp (.cons rfl .nil) Tryd.call54 rfl (T := fun _ => True) trivial (is_pure _) ?_
  refine W_not rfl rfl ?_
  refine W_nil ?_
  refine W_condS rfl (fun c0 => ?_) (fun c0 => ?_)
  · simp only [cond_true, cond_false, Bool.and_eq_true, Bool.or_eq_true, Bool.and_eq_false_iff, Bool.or_eq_false_iff, decide_eq_true_eq, decide_eq_false_iff_not, Bool.not_eq_true', Bool.not_eq_false', ne_eq, Decidable.not_not] at c0
    refine W_sr ?_
    refine W_assign rfl rfl ?_
    refine W_nil ?_
    refine W_ret1m (H2 := H) Tryd.results13 rfl (.nil _) (by repeat (first | exact HSub.refl _ | refine HSub.cons (by repeat (first | exact Take.here _ | apply Take.next | apply Take.app)) ?_ | refine HSub.app (by repeat (first | exact TakeS.here _ | apply TakeS.next | apply TakeS.app)) ?_ | refine HSub.drop ?_ | refine HSub.dropS ?_ | exact HSub.nil _)) ?_
    exact ⟨by unfold wordB; rw [if_neg (by simpa using c0)], rfl⟩
  · simp only [cond_true, cond_false, Bool.and_eq_true, Bool.or_eq_true, Bool.and_eq_false_iff, Bool.or_eq_false_iff, decide_eq_true_eq, decide_eq_false_iff_not, Bool.not_eq_true', Bool.not_eq_false', ne_eq, Decidable.not_not] at c0
    refine W_skip ?_
    refine W_sr ?_
    refine W_call (.cons rfl .nil) Tryd.call55 rfl (fields_words hT) ?_
    rintro v H' ⟨b6, rfl, rfl⟩
    have hkk : 0 ≤ k ∧ k ≤ 17 := by simpa [isK] using c0
    refine W_move rfl rfl ?_
    refine W_indexAddr (j := k.toNat) rfl rfl ty108 ty9 (by first | rfl | omega) (by first | decide | omega | simp) rfl rfl ?_
    refine W_load rfl ty9 rfl (v := .string (wordB k)) (Cell.own (by repeat (first | exact List.mem_cons_self | apply List.mem_cons_of_mem | apply List.mem_append_right)) (by rw [Nat.zero_add, Nat.mul_one, str_get (by show k.toNat < 18; omega)]; unfold wordB; rw [if_pos (by simpa using c0)])) rfl ?_
    refine W_assign rfl rfl ?_
    refine W_nil ?_
    refine W_ret1m (H2 := H) Tryd.results13 rfl (.nil _) (by repeat (first | exact HSub.refl _ | refine HSub.cons (by repeat (first | exact Take.here _ | apply Take.next | apply Take.app)) ?_ | refine HSub.app (by repeat (first | exact TakeS.here _ | apply TakeS.next | apply TakeS.app)) ?_ | refine HSub.drop ?_ | refine HSub.dropS ?_ | exact HSub.nil _)) ?_
    exact ⟨rfl, rfl⟩
set_option maxHeartbeats 4000000 in
theorem scriptChecks_pure {r : Sr} (hr : StOk r.st) (hc : r.st.raw.length ≤ r.cap) : Pure Tryd.prog (fun w => Tab w ∧ InRow w r.ad (bytesV r.st.raw)) 3 [.agg r.cells.toArray] (.bool true) := by
  intro w0 H hT
  have hT0 := hT
  clear hT
  have hT := hT0.1
  refine L_enter Tryd.func3 rfl Tryd.ntmps3 rfl rfl ?_
  refine W_sr ?_
  refine W_box rfl rfl rfl (fun b1 => ?_)
  refine W_assign rfl rfl ?_
  refine W_nil ?_
  refine W_sr ?_
  refine W_loadB rfl ty25 rfl (by repeat (first | exact List.mem_cons_self | apply List.mem_cons_of_mem | apply List.mem_append_right)) rfl (vs := r.cells) rfl rfl ?_
  refine W_callp (.cons rfl .nil) Tryd.call12 rfl (T := fun _ => True) trivial (cut_pure _ hc) ?_
  refine W_storeA rfl rfl ty25 rfl rfl (by repeat (first | exact List.mem_cons_self | apply List.mem_cons_of_mem | apply List.mem_append_right)) (Nat.le_of_ble_eq_true rfl) (by simp only [fillL, spliceL, Value.cells, List.take_zero, List.take_succ_cons, List.take_nil, List.drop_zero, List.drop_succ_cons, List.drop_nil, List.nil_append, List.cons_append, List.append_nil, List.length_cons, List.length_nil, Nat.zero_add, Nat.reduceAdd, List.toList_toArray]; rfl) (by repeat (first | exact Upd.head _ | apply Upd.tail | apply Upd.app)) ?_
  refine W_nil ?_
  refine W_seq ?_
  refine W_sr ?_
  refine W_assign rfl rfl ?_
  refine W_nil ?_
  refine W_block ?_
  refine W_loopC (X := Nat) [(1, _)] (fun (i : Nat) => [(3, .int .i64 ((i : Int) - 2))]) (fun _ => _) (fun _ => _) (fun (i : Nat) => i ≤ 24) (fun (i : Nat) => 24 - i) 0 (by omega) (sub_cons rfl (sub_nil _)) (sub_cons rfl (sub_nil _)) rfl (by repeat (first | exact HSub.refl _ | refine HSub.cons (by repeat (first | exact Take.here _ | apply Take.next | apply Take.app)) ?_ | refine HSub.app (by repeat (first | exact TakeS.here _ | apply TakeS.next | apply TakeS.app)) ?_ | refine HSub.drop ?_ | refine HSub.dropS ?_ | exact HSub.nil _)) ?_
  intro i hi
  simp only [List.cons_append, List.nil_append]
  refine W_seq ?_
  refine W_sr ?_
  refine W_move rfl rfl ?_
  refine W_bin rfl rfl b_lss rfl ?_
  refine W_nil ?_
  refine W_condPS (p := (i : Int) - 2 < 22) rfl (by simp) (fun c0 => ?_) (fun c0 => ?_)
  · skip
    refine W_skip ?_
    refine W_seq ?_
    refine W_block ?_
    refine W_sr ?_
    refine W_move rfl rfl ?_
    refine W_callp (.cons rfl .nil) Tryd.call13 rfl hT (word_pure _) ?_
    refine W_move rfl rfl ?_
    refine W_callp (.cons rfl .nil) Tryd.call14 rfl (T := fun _ => True) trivial (refWord_pure _) ?_
    refine W_sne_s rfl rfl rfl ?_
    refine W_nil ?_
    refine W_condF rfl (by simp) ?_
    refine W_skip ?_
    refine W_blk ?_
    refine W_region ?_
    refine W_move rfl rfl ?_
    refine W_bin rfl rfl (b_add (m := ((i + 1 : Nat) : Int) - 2) ((i64w (by omega)).trans (by omega))) rfl ?_
    refine W_assign rfl rfl ?_
    refine W_nil ?_
    refine W_again (i + 1) (by omega) (by omega) (sub_cons rfl (sub_cons rfl (sub_nil _))) rfl (by repeat (first | exact HSub.refl _ | refine HSub.cons (by repeat (first | exact Take.here _ | apply Take.next | apply Take.app)) ?_ | refine HSub.app (by repeat (first | exact TakeS.here _ | apply TakeS.next | apply TakeS.app)) ?_ | refine HSub.drop ?_ | refine HSub.dropS ?_ | exact HSub.nil _))
  · skip
    refine W_exit rfl ?_
    refine W_quietsr (by kernel_rfl) (by decide +kernel) ?_
    refine WQ_callp .nil Tryd.call15 rfl (T := fun _ => True) trivial (known_pure ) ?_
    refine WQ_x (X_move rfl) rfl ?_
    refine WQ_gyes rfl rfl ?_
    refine WQ_x (X_loadB rfl ty25 rfl (by repeat (first | exact List.mem_cons_self | apply List.mem_cons_of_mem | apply List.mem_append_right)) rfl (vs := r.cut.cells) rfl) rfl ?_
    refine WQ_gyes rfl rfl ?_
    refine WQ_callp (.cons rfl .nil) Tryd.call17 rfl (T := fun _ => True) trivial (to_pure _) ?_
    refine WQ_gyes rfl rfl ?_
    refine WQ_callp (.cons rfl .nil) Tryd.call16 rfl (T := fun _ => True) trivial (check_pure _ _ _) ?_
    refine WQ_gyes rfl rfl ?_
    refine WQ_x (X_loadB rfl ty25 rfl (by repeat (first | exact List.mem_cons_self | apply List.mem_cons_of_mem | apply List.mem_append_right)) rfl (vs := r.cut.cells) rfl) rfl ?_
    refine WQ_gyes rfl rfl ?_
    refine WQ_callp (.cons rfl .nil) Tryd.call18 rfl (T := fun _ => True) trivial (rcheck_pure _ (Sr.cut_ok (w0 := w0) (H := []) ⟨hr, Holds.old hT0.2⟩).st _ _) ?_
    refine WQ_gyes rfl rfl ?_
    refine WQ_x (X_bin rfl rfl b_eql) rfl ?_
    rw [decide_eq_true rfl]
    first | refine WQ_x (X_pickt rfl rfl) rfl ?_ | refine WQ_x (X_pickf rfl rfl) rfl ?_
    refine WQ_x (X_move rfl) rfl ?_
    refine WQ_gyes rfl rfl ?_
    refine WQ_x (X_fieldAddr rfl fld25_0 (by decide)) rfl ?_
    refine WQ_gyes rfl rfl ?_
    refine WQ_x (X_load rfl ty3 rfl (Cell.own (by repeat (first | exact List.mem_cons_self | apply List.mem_cons_of_mem | apply List.mem_append_right)) rfl)) rfl ?_
    refine WQ_gyes rfl rfl ?_
    refine WQ_callp (.cons rfl .nil) Tryd.call13 rfl hT (word_pure _) ?_
    refine WQ_gyes rfl rfl ?_
    refine WQ_x (X_fieldAddr rfl fld25_0 (by decide)) rfl ?_
    refine WQ_gyes rfl rfl ?_
    refine WQ_x (X_load rfl ty3 rfl (Cell.own (by repeat (first | exact List.mem_cons_self | apply List.mem_cons_of_mem | apply List.mem_append_right)) rfl)) rfl ?_
    refine WQ_gyes rfl rfl ?_
    refine WQ_callp (.cons rfl .nil) Tryd.call14 rfl (T := fun _ => True) trivial (refWord_pure _) ?_
    refine WQ_gyes rfl rfl ?_
    refine WQ_x (X_seq_s rfl rfl) rfl ?_
    rw [beq_self_eq_true]
    first | refine WQ_x (X_pickt rfl rfl) rfl ?_ | refine WQ_x (X_pickf rfl rfl) rfl ?_
    refine WQ_x (X_assign rfl) rfl ?_
    refine WQ_nil ?_
    refine W_ret1m (H2 := H) Tryd.results3 rfl (.nil _) (by repeat (first | exact HSub.refl _ | refine HSub.cons (by repeat (first | exact Take.here _ | apply Take.next | apply Take.app)) ?_ | refine HSub.app (by repeat (first | exact TakeS.here _ | apply TakeS.next | apply TakeS.app)) ?_ | refine HSub.drop ?_ | refine HSub.dropS ?_ | exact HSub.nil _)) ?_
    exact ⟨rfl, rfl⟩
end Go.Proofs.YtkhkagjbeilbgaaDoor
