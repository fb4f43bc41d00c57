/-
  Own work: contracts of functions that the statement reaches, and plain facts on what they compute; each theorem says its conditions.
-/
import Derived.Test.YtkhkagjbeilbgaaS19
set_option linter.all false
set_option linter.unusedSimpArgs false
set_option linter.unusedVariables false
namespace Go.Proofs.Ytkhkagjbeilbgaa
open Go Go.Sl
attribute [local irreducible] W
open Go.Script

theorem insts (l : List Int) : ints l = l.map (.int .i64) := rfl
theorem ints_append (a b : List Int) : ints (a ++ b) = ints a ++ ints b := by simp [ints]
def wantL (l : List St) : Int := l.foldl (fun w s => if w = 0 then chk s else w) 0
theorem wantL_snoc (l : List St) (s : St) : wantL (l ++ [s]) = if wantL l = 0 then chk s else wantL l := by unfold wantL; rw [List.foldl_append]; rfl
def okL (l : List St) : List St := l.filter fun s => decide (chk s = 0)
theorem okL_t (l : List St) {s : St} (h : chk s = 0) : okL (l ++ [s]) = okL l ++ [s] := by simp [okL, List.filter_append, h]
theorem okL_f (l : List St) {s : St} (h : ¬ chk s = 0) : okL (l ++ [s]) = okL l := by simp [okL, List.filter_append, h]
theorem okL_all {l : List St} (h : ∀ s ∈ l, chk s = 0) : okL l = l := by unfold okL; rw [List.filter_eq_self]; intro s hs; simp [h s hs]
theorem okL_mem {l : List St} : ∀ s ∈ okL l, chk s = 0 := fun s hs => by simpa using (List.mem_filter.1 hs).2
theorem okL_le (l : List St) : (okL l).length ≤ l.length := List.length_filter_le _ _
def posL (l : List St) : List Int := (List.range l.length).map fun j => ((encs (l.take j)).length : Int)
theorem posL_len (l : List St) : (posL l).length = l.length := by simp [posL]
theorem posL_snoc (l : List St) (s : St) : posL (l ++ [s]) = posL l ++ [((encs l).length : Int)] := by
  unfold posL
  rw [List.length_append, List.length_singleton, List.range_succ, List.map_append]
  congr 1
  · refine List.map_congr_left fun j hj => ?_
    rw [List.take_append_of_le_length (Nat.le_of_lt (List.mem_range.1 hj))]
  · simp
theorem posL_at {l : List St} {i : Nat} (h : i < l.length) : (ints (posL l))[i]? = some (.int .i64 ((encs (l.take i)).length : Int)) := by simp [ints, posL, h]
theorem wantL_zero : ∀ {l : List St}, (∀ s ∈ l, chk s = 0) → wantL l = 0 := by
  intro l
  unfold wantL
  suffices ∀ (l : List St) , (∀ s ∈ l, chk s = 0) → l.foldl (fun w s => if w = 0 then chk s else w) 0 = 0 from this l
  intro l
  induction l with
  | nil => intro _; rfl
  | cons s l ih => intro h; simp only [List.foldl_cons, if_true, h s List.mem_cons_self]; exact ih (fun x hx => h x (List.mem_cons_of_mem _ hx))
theorem wantL_stay : ∀ (l : List St) (w : Int), w ≠ 0 → l.foldl (fun w s => if w = 0 then chk s else w) w = w
  | [], _, _ => rfl
  | s :: l, w, h => by simp only [List.foldl_cons, if_neg h]; exact wantL_stay l w h
theorem wantL_first {l : List Sr} {e : Int} (h : FirstE l e) : wantL (l.map Sr.st) = e ∧ e ≠ 0 := by
  obtain ⟨i, x, hx, rfl, hne, hall⟩ := h
  refine ⟨?_, hne⟩
  obtain ⟨hi, hxe⟩ := List.getElem?_eq_some_iff.1 hx
  have e1 : l.map Sr.st = (l.take i).map Sr.st ++ x.st :: (l.drop (i + 1)).map Sr.st := by
    conv => lhs; rw [← List.take_append_drop i l, List.drop_eq_getElem_cons hi, hxe]
    simp
  have h0 := wantL_zero hall
  unfold wantL at h0 ⊢
  rw [e1, List.foldl_append, h0, List.foldl_cons, if_pos rfl]
  exact wantL_stay _ _ hne
theorem sameT_q {w0 : World} {H : Heap} {a b : Sr} (h : a.st = b.st) (ha : SrOk w0 H a) (hb : SrOk w0 H b) : PureAt Try.prog w0 H 18 [.agg a.cells.toArray, .agg b.cells.toArray] (.bool true) := by
  have := same_q ha hb
  rwa [decide_eq_true h] at this
theorem steps_all {es : List Er} (h : ∀ e ∈ es, e.err = 0) : stepsOf es = es.map Er.r := by
  induction es with
  | nil => rfl
  | cons e es ih =>
    have h1 := h e List.mem_cons_self
    have h2 := ih (fun x hx => h x (List.mem_cons_of_mem _ hx))
    unfold stepsOf at h2 ⊢
    rw [List.filterMap_cons, if_pos h1, h2]; rfl
theorem enc_bytes {s : St} (hk : isK s.kind = true) (ho : StOk s) : Go.Script.Bytes (enc s) := fun b hb => by
  rw [enc_cons] at hb
  rcases List.mem_cons.1 hb with rfl | hb
  · simp only [isK, Bool.and_eq_true, decide_eq_true_eq] at hk; omega
  · rcases List.mem_append.1 hb with hb | hb
    · exact lowL_bytes _ _ b hb
    · rcases List.mem_append.1 hb with hb | hb
      · obtain ⟨j, _, hb⟩ := List.mem_flatMap.1 hb
        exact lowL_bytes _ _ b hb
      · exact ho.raw b hb
theorem encs_bytes {l : List St} (h : ∀ s ∈ l, StOk s ∧ chk s = 0) : Go.Script.Bytes (encs l) := fun b hb => by
  obtain ⟨s, hs, hb⟩ := List.mem_flatMap.1 hb
  exact enc_bytes (len_chk (h s hs).2).1 (h s hs).1 b hb
/-- what a law is handed: steps in memory -/
structure Given (w : World) (l : List Sr) : Prop where
  st : ∀ r ∈ l, StOk r.st
  cap : ∀ r ∈ l, r.st.raw.length ≤ r.cap
  row : ∀ r ∈ l, InRow w r.ad (bytesV r.st.raw)
theorem Given.ok {w0 : World} {H : Heap} {l : List Sr} (h : Given w0 l) {r : Sr} (hr : r ∈ l) : SrOk w0 H r := ⟨h.st r hr, Holds.old (h.row r hr)⟩
def cuts (l : List Sr) (i : Nat) : List Sr := (l.take i).map Sr.cut
theorem cuts_succ {l : List Sr} {i : Nat} {x : Sr} (h : l[i]? = some x) : cuts l (i + 1) = cuts l i ++ [x.cut] := by unfold cuts; rw [takeAt h, List.map_append]; rfl
theorem cuts_len {l : List Sr} {i : Nat} (h : i ≤ l.length) : (cuts l i).length = i := by unfold cuts; rw [List.length_map, List.length_take]; omega
theorem cuts_ok {w0 : World} {H : Heap} {l : List Sr} (h : Given w0 l) {i : Nat} : ∀ r ∈ cuts l i, SrOk w0 H r := fun r hr => by
  obtain ⟨x, hx, rfl⟩ := List.mem_map.1 hr
  exact Sr.cut_ok (h.ok (List.mem_of_mem_take hx))
def sts (l : List Sr) (i : Nat) : List St := (cuts l i).map Sr.st
theorem sts_succ {l : List Sr} {i : Nat} {x : Sr} (h : l[i]? = some x) : sts l (i + 1) = sts l i ++ [x.cut.st] := by unfold sts; rw [cuts_succ h, List.map_append]; rfl
theorem sts_len {l : List Sr} {i : Nat} (h : i ≤ l.length) : (sts l i).length = i := by unfold sts; rw [List.length_map, cuts_len h]

theorem sts_at {l : List Sr} {i j : Nat} {y : Sr} (h : (cuts l i)[j]? = some y) : (sts l i)[j]? = some y.st := by unfold sts; rw [List.getElem?_map, h]; rfl
theorem sts_mem {l : List Sr} {i : Nat} {s : St} (h : s ∈ sts l i) : ∃ r, r ∈ cuts l i ∧ r.st = s := by obtain ⟨r, hr, e⟩ := List.mem_map.1 h; exact ⟨r, hr, e⟩

theorem ents_err : ∀ {l : List St} {a : Nat} {e : En}, e ∈ entsOf a l → e.err = 0
  | [], _, _, h => by cases h
  | s :: l, a, e, h => by
    rcases List.mem_cons.1 h with rfl | h
    · rfl
    · exact ents_err h

theorem cuts0 (l : List Sr) : cuts l 0 = [] := rfl
theorem enc0 (l : List Sr) : encs (okL (sts l 0)) = [] := rfl
theorem pos0 (l : List Sr) : posL (okL (sts l 0)) = [] := rfl
theorem want0 (l : List Sr) : wantL (sts l 0) = 0 := rfl
attribute [local irreducible] cuts sts encs okL posL wantL stepsOf enc chk parse
set_option maxHeartbeats 8000000 in
theorem scriptBytes_pure {l : List Sr} {ad : Option Addr} {cap : Nat} : Pure Try.prog (fun w => InRow w ad (srRow l) ∧ Given w l) 4 [.slice ad l.length cap] (.bool true) := by
  intro w0 H hT
  obtain ⟨hrow0, hg⟩ := id hT
  clear hT
  have hrow : Holds w0 H ad (srRow l) := Holds.old hrow0
  refine L_enter Try.func4 rfl Try.ntmps4 rfl rfl ?_
  refine W_sr ?_
  refine W_assign rfl rfl ?_
  refine W_nil ?_
  refine W_sr ?_
  refine W_assign rfl rfl ?_
  refine W_nil ?_
  refine W_sr ?_
  refine W_assign rfl rfl ?_
  refine W_nil ?_
  refine W_sr ?_
  refine W_assign rfl rfl ?_
  refine W_nil ?_
  refine W_sr ?_
  refine W_assign rfl rfl ?_
  refine W_nil ?_
  refine W_seq ?_
  refine W_sr ?_
  refine W_assign rfl rfl ?_
  refine W_nil ?_
  refine W_block ?_
  refine W_loopC (X := (Nat × Value × Heap × Value × Heap × Value × Heap)) [(0, _)] (fun (x : (Nat × Value × Heap × Value × Heap × Value × Heap)) => [(3, x.2.1), (4, x.2.2.2.1), (5, x.2.2.2.2.2.1), (6, .int .i64 (wantL (sts l x.1))), (7, .int .i64 (x.1 : Int))]) (fun _ => _) (fun (x : (Nat × Value × Heap × Value × Heap × Value × Heap)) => x.2.2.1 ++ (x.2.2.2.2.1 ++ (x.2.2.2.2.2.2 ++ H))) (fun (x : (Nat × Value × Heap × Value × Heap × Value × Heap)) => x.1 ≤ l.length ∧ x.1 ≤ 20 ∧ OwnS 29 7 x.2.1 (cuts l x.1).length (srRow (cuts l x.1)) x.2.2.1 ∧ OwnS 5 1 x.2.2.2.1 (encs (okL (sts l x.1))).length (bytesV (encs (okL (sts l x.1)))) x.2.2.2.2.1 ∧ OwnS 3 1 x.2.2.2.2.2.1 (posL (okL (sts l x.1))).length (ints (posL (okL (sts l x.1)))) x.2.2.2.2.2.2) (fun (x : (Nat × Value × Heap × Value × Heap × Value × Heap)) => 20 - x.1) (0, .slice none 0 0, [], .slice none 0 0, [], .slice none 0 0, []) ⟨by simp, by simp, by show OwnS _ _ _ (cuts l 0).length (srRow (cuts l 0)) _; rw [cuts0]; exact .nil, by show OwnS _ _ _ (encs (okL (sts l 0))).length (bytesV (encs (okL (sts l 0)))) _; rw [enc0]; exact .nil, by show OwnS _ _ _ (posL (okL (sts l 0))).length (ints (posL (okL (sts l 0)))) _; rw [pos0]; exact .nil⟩ (sub_cons rfl (sub_nil _)) (sub_cons rfl (sub_cons rfl (sub_cons rfl (sub_cons (by rw [want0]; rfl) (sub_cons rfl (sub_nil _)))))) rfl (by repeat (first | with_reducible exact HSub.refl _ | refine HSub.cons (by repeat (first | exact Take.here _ | apply Take.next | apply Take.app)) ?_ | refine HSub.app (by repeat (first | with_reducible exact TakeS.here _ | apply TakeS.next | apply TakeS.app)) ?_ | exact HSub.nil _ | exact HSub.refl _ | refine HSub.drop ?_ | refine HSub.dropS ?_)) ?_
  rintro ⟨i, xv, XB, wv, WB, av, AB⟩ ⟨hi, hi20, hX, hW, hA⟩
  dsimp only at hi hi20 hX hW hA ⊢
  have hcl := cuts_len hi
  have hsl := sts_len hi
  have hol := okL_le (sts l i)
  have hel := encs_len (l := okL (sts l i)) okL_mem
  have hpl := posL_len (okL (sts l i))
  simp only [List.cons_append, List.nil_append]
  refine W_seq ?_
  refine W_sr ?_
  refine W_move rfl rfl ?_
  refine W_move rfl rfl ?_
  refine W_len rfl ty39 rfl rfl ?_
  refine W_bin rfl rfl b_lss rfl ?_
  refine W_move rfl rfl ?_
  apply W_and
  iterate 4 exact rfl
  case h1 =>
    intro hg4
    refine W_gyes rfl rfl ?_
    refine W_move rfl rfl ?_
    refine W_gyes rfl rfl ?_
    refine W_bin rfl rfl b_lss rfl ?_
    exact W_met rfl (by repeat (first | exact .refl | refine .cons rfl ?_))
  refine W_nil ?_
  refine W_condS rfl (fun c0 => ?_) (fun c0 => ?_)
  · simp only [cond_true, cond_false, Bool.and_eq_true, Bool.or_eq_true, Bool.and_eq_false_iff, Bool.or_eq_false_iff, decide_eq_true_eq, decide_eq_false_iff_not, Bool.not_eq_true', Bool.not_eq_false', ne_eq, Decidable.not_not] at c0
    refine W_skip ?_
    refine W_seq ?_
    refine W_block ?_
    refine W_sr ?_
    obtain ⟨x, hx⟩ : ∃ x, l[i]? = some x := ⟨_, List.getElem?_eq_getElem (by omega)⟩
    have hxm := List.mem_of_getElem? hx
    have hxc := hg.cap x hxm
    have hxo : SrOk w0 H x.cut := Sr.cut_ok (hg.ok hxm)
    have hxl := cut_len x
    obtain ⟨q0, p0, rfl, hcx⟩ := hrow.row sr_len (by decide) hx
    refine W_move rfl rfl ?_
    refine W_move rfl rfl ?_
    refine W_indexAddr (j := i) rfl rfl ty39 ty33 (by first | rfl | omega) (by first | decide | omega | simp) rfl rfl ?_
    refine W_loadA rfl ty33 rfl (vs := x.cells) rfl (hcx.up (by repeat (first | with_reducible exact HSub.refl _ | refine HSub.cons (by repeat (first | exact Take.here _ | apply Take.next | apply Take.app)) ?_ | refine HSub.app (by repeat (first | with_reducible exact TakeS.here _ | apply TakeS.next | apply TakeS.app)) ?_ | exact HSub.nil _ | exact HSub.refl _ | refine HSub.drop ?_ | refine HSub.dropS ?_))) rfl ?_
    refine W_callp (.cons rfl .nil) Try.call11 rfl (T := fun _ => True) trivial (cut_pure _ hxc) ?_
    refine W_alloc ty33 rfl rfl (fun b8 => ?_)
    refine W_storeA rfl rfl ty33 rfl rfl (by repeat (first | exact List.mem_cons_self | apply List.mem_cons_of_mem | apply List.mem_append_right)) (Nat.le_of_ble_eq_true rfl) (by simp only [fillL, spliceL, Value.cells, List.take_zero, List.take_succ_cons, List.take_nil, List.drop_zero, List.drop_succ_cons, List.drop_nil, List.nil_append, List.cons_append, List.append_nil, List.length_cons, List.length_nil, Nat.zero_add, Nat.reduceAdd, List.toList_toArray]; rfl) (by repeat (first | exact Upd.head _ | apply Upd.tail | apply Upd.app)) ?_
    refine W_nil ?_
    refine W_sr ?_
    refine W_move rfl rfl ?_
    refine W_loadB rfl ty33 rfl (by repeat (first | exact List.mem_cons_self | apply List.mem_cons_of_mem | apply List.mem_append_right)) rfl (vs := x.cut.cells) rfl rfl ?_
    refine W_callp (.cons rfl .nil) Try.call12 rfl (T := fun _ => True) trivial (to_pure _) ?_
    refine W_buildSlice ty40 ty29 (.cons rfl rfl rfl rfl rfl .nil) rfl rfl rfl rfl rfl rfl rfl (fun b33 => ?_)
    refine W_append (news := x.cut.cells) (m := 1) (HB := XB) (H0 := (b8, .cells 33 7 x.cut.cells) :: (WB ++ (AB ++ H))) rfl rfl ty40 ty29 rfl (by decide) hX rfl (Holds.own List.mem_cons_self) rfl (by simp only [maxLen]; omega) (by omega) (by repeat (first | with_reducible exact HSub.refl _ | refine HSub.cons (by repeat (first | exact Take.here _ | apply Take.next | apply Take.app)) ?_ | refine HSub.app (by repeat (first | with_reducible exact TakeS.here _ | apply TakeS.next | apply TakeS.app)) ?_ | exact HSub.nil _ | exact HSub.refl _ | refine HSub.drop ?_ | refine HSub.dropS ?_)) rfl (fun v1 XB1 hX1 => ?_)
    refine W_assign rfl rfl ?_
    refine W_nil ?_
    refine W_sr ?_
    refine W_loadB rfl ty33 rfl (by repeat (first | exact List.mem_cons_self | apply List.mem_cons_of_mem | apply List.mem_append_right)) rfl (vs := x.cut.cells) rfl rfl ?_
    refine W_callp (.cons rfl .nil) Try.call13 rfl (T := fun _ => True) trivial (rcheck_pure _ hxo.st _ _) ?_
    refine W_assign rfl rfl ?_
    refine W_nil ?_
    refine W_seq ?_
    refine W_sr ?_
    refine W_move rfl rfl ?_
    refine W_bin rfl rfl b_eql rfl ?_
    refine W_nil ?_
    refine W_condJ (p := wantL (sts l i) = 0) [(0, .slice (some ⟨q0, p0, none⟩) l.length cap), (3, v1), (4, wv), (5, av), (6, .int .i64 (if wantL (sts l i) = 0 then chk x.cut.st else wantL (sts l i))), (7, .int .i64 (i : Int)), (8, .pointer (some ⟨b8, 0, none⟩)), (9, .int .i64 (chk x.cut.st))] (XB1 ++ ((b8, .cells 33 7 x.cut.cells) :: (WB ++ (AB ++ H)))) rfl (by simp) (fun c1 => ?_) (fun c1 => ?_) ?_
    · skip
      refine W_region ?_
      refine W_move rfl rfl ?_
      refine W_assign rfl rfl ?_
      refine W_nil ?_
      refine W_joined (sub_cons rfl (sub_cons rfl (sub_cons rfl (sub_cons rfl (sub_cons (by rw [if_pos c1]; rfl) (sub_cons rfl (sub_cons rfl (sub_cons rfl (sub_nil _))))))))) (by repeat (first | with_reducible exact HSub.refl _ | refine HSub.cons (by repeat (first | exact Take.here _ | apply Take.next | apply Take.app)) ?_ | refine HSub.app (by repeat (first | with_reducible exact TakeS.here _ | apply TakeS.next | apply TakeS.app)) ?_ | exact HSub.nil _ | exact HSub.refl _ | refine HSub.drop ?_ | refine HSub.dropS ?_))
    · skip
      refine W_skip ?_
      refine W_joined (sub_cons rfl (sub_cons rfl (sub_cons rfl (sub_cons rfl (sub_cons (by rw [if_neg c1]; rfl) (sub_cons rfl (sub_cons rfl (sub_cons rfl (sub_nil _))))))))) (by repeat (first | with_reducible exact HSub.refl _ | refine HSub.cons (by repeat (first | exact Take.here _ | apply Take.next | apply Take.app)) ?_ | refine HSub.app (by repeat (first | with_reducible exact TakeS.here _ | apply TakeS.next | apply TakeS.app)) ?_ | exact HSub.nil _ | exact HSub.refl _ | refine HSub.drop ?_ | refine HSub.dropS ?_))
    skip
    refine W_sr ?_
    refine W_move rfl rfl ?_
    refine W_bin rfl rfl b_eql rfl ?_
    refine W_nil ?_
    refine W_condPS (p := chk x.cut.st = 0) rfl (by simp) (fun c2 => ?_) (fun c2 => ?_)
    · skip
      refine W_sr ?_
      refine W_move rfl rfl ?_
      obtain ⟨aw, cw, rfl, _, _⟩ := hW.shape
      have hck : chk x.cut.st = 0 := c2
      refine W_move rfl rfl ?_
      refine W_len rfl ty22 rfl rfl ?_
      refine W_buildSlice (l := ints [((encs (okL (sts l i))).length : Int)]) ty41 ty3 (.cons rfl rfl rfl rfl rfl .nil) rfl rfl rfl rfl rfl rfl rfl (fun b45 => ?_)
      refine W_append (news := ints [((encs (okL (sts l i))).length : Int)]) (m := 1) (HB := AB) (H0 := XB1 ++ ((b8, .cells 33 7 x.cut.cells) :: (WB ++ H))) rfl rfl ty41 ty3 rfl (by decide) hA rfl (Holds.own List.mem_cons_self) rfl (by simp only [maxLen]; omega) (by omega) (by repeat (first | with_reducible exact HSub.refl _ | refine HSub.cons (by repeat (first | exact Take.here _ | apply Take.next | apply Take.app)) ?_ | refine HSub.app (by repeat (first | with_reducible exact TakeS.here _ | apply TakeS.next | apply TakeS.app)) ?_ | exact HSub.nil _ | exact HSub.refl _ | refine HSub.drop ?_ | refine HSub.dropS ?_)) rfl (fun v2 AB2 hA2 => ?_)
      refine W_assign rfl rfl ?_
      refine W_nil ?_
      refine W_region ?_
      refine W_move rfl rfl ?_
      refine W_loadB rfl ty33 rfl (by repeat (first | exact List.mem_cons_self | apply List.mem_cons_of_mem | apply List.mem_append_right)) rfl (vs := x.cut.cells) rfl rfl ?_
      refine W_call (.cons rfl .nil) Try.call14 rfl (rbytes_L (s := x.cut.st) (len_chk hck).1 hxo.st (by omega) (hxo.holds.up (by repeat (first | with_reducible exact HSub.refl _ | refine HSub.cons (by repeat (first | exact Take.here _ | apply Take.next | apply Take.app)) ?_ | refine HSub.app (by repeat (first | with_reducible exact TakeS.here _ | apply TakeS.next | apply TakeS.app)) ?_ | exact HSub.nil _ | exact HSub.refl _ | refine HSub.drop ?_ | refine HSub.dropS ?_)))) ?_
      rintro v9 H' ⟨HB9, hO9, rfl⟩
      obtain ⟨a9, c9, rfl, hac9, _, hh9⟩ := Holds.of_own (w0 := w0) (H := HB9 ++ []) hO9 (fun p hp => List.mem_append_left _ hp)
      have hen9 := enc_len3 x.cut.st
      have heb9 := encB_len hck
      refine W_append (news := bytesV (enc x.cut.st)) (m := (enc x.cut.st).length) (HB := WB) (H0 := XB1 ++ (AB2 ++ H)) rfl rfl ty22 ty5 rfl (by decide) hW (by rw [bytesV_len, Nat.mul_one]) (hh9.up (by repeat (first | with_reducible exact HSub.refl _ | refine HSub.cons (by repeat (first | exact Take.here _ | apply Take.next | apply Take.app)) ?_ | refine HSub.app (by repeat (first | with_reducible exact TakeS.here _ | apply TakeS.next | apply TakeS.app)) ?_ | exact HSub.nil _ | exact HSub.refl _ | refine HSub.drop ?_ | refine HSub.dropS ?_))) (bytesV_one _) (by simp only [maxLen]; omega) (by omega) (by repeat (first | with_reducible exact HSub.refl _ | refine HSub.cons (by repeat (first | exact Take.here _ | apply Take.next | apply Take.app)) ?_ | refine HSub.app (by repeat (first | with_reducible exact TakeS.here _ | apply TakeS.next | apply TakeS.app)) ?_ | exact HSub.nil _ | exact HSub.refl _ | refine HSub.drop ?_ | refine HSub.dropS ?_)) rfl (fun v3 WB3 hW3 => ?_)
      refine W_assign rfl rfl ?_
      refine W_nil ?_
      refine W_blk ?_
      refine W_region ?_
      refine W_move rfl rfl ?_
      refine W_bin rfl rfl (b_add (m := ((i + 1 : Nat) : Int)) ((i64w (by omega)).trans (by omega))) rfl ?_
      refine W_assign rfl rfl ?_
      refine W_nil ?_
      refine W_again (i + 1, v1, XB1, v3, WB3, v2, AB2) ⟨by show i + 1 ≤ l.length; omega, by show i + 1 ≤ 20; omega, by show OwnS _ _ v1 (cuts l (i + 1)).length (srRow (cuts l (i + 1))) XB1; rw [cuts_succ hx, List.length_append, srRow_append]; exact hX1, by show OwnS _ _ v3 (encs (okL (sts l (i + 1)))).length (bytesV (encs (okL (sts l (i + 1))))) WB3; rw [sts_succ hx, okL_t _ hck, encs_append, List.length_append, bytesV_append]; exact hW3, by show OwnS _ _ v2 (posL (okL (sts l (i + 1)))).length (ints (posL (okL (sts l (i + 1))))) AB2; rw [sts_succ hx, okL_t _ hck, posL_snoc, List.length_append, ints_append]; exact hA2⟩ (by show 20 - (i + 1) < 20 - i; omega) (sub_cons rfl (sub_cons rfl (sub_cons rfl (sub_cons (by rw [sts_succ hx, wantL_snoc]; rfl) (sub_cons rfl (sub_cons rfl (sub_nil _))))))) rfl (by repeat (first | with_reducible exact HSub.refl _ | refine HSub.cons (by repeat (first | exact Take.here _ | apply Take.next | apply Take.app)) ?_ | refine HSub.app (by repeat (first | with_reducible exact TakeS.here _ | apply TakeS.next | apply TakeS.app)) ?_ | exact HSub.nil _ | exact HSub.refl _ | refine HSub.drop ?_ | refine HSub.dropS ?_))
    · skip
      refine W_skip ?_
      refine W_blk ?_
      refine W_region ?_
      refine W_move rfl rfl ?_
      refine W_bin rfl rfl (b_add (m := ((i + 1 : Nat) : Int)) ((i64w (by omega)).trans (by omega))) rfl ?_
      refine W_assign rfl rfl ?_
      refine W_nil ?_
      refine W_again (i + 1, v1, XB1, wv, WB, av, AB) ⟨by show i + 1 ≤ l.length; omega, by show i + 1 ≤ 20; omega, by show OwnS _ _ v1 (cuts l (i + 1)).length (srRow (cuts l (i + 1))) XB1; rw [cuts_succ hx, List.length_append, srRow_append]; exact hX1, by show OwnS _ _ wv (encs (okL (sts l (i + 1)))).length (bytesV (encs (okL (sts l (i + 1))))) WB; rw [sts_succ hx, okL_f _ c2]; exact hW, by show OwnS _ _ av (posL (okL (sts l (i + 1)))).length (ints (posL (okL (sts l (i + 1))))) AB; rw [sts_succ hx, okL_f _ c2]; exact hA⟩ (by show 20 - (i + 1) < 20 - i; omega) (sub_cons rfl (sub_cons rfl (sub_cons rfl (sub_cons (by rw [sts_succ hx, wantL_snoc]; rfl) (sub_cons rfl (sub_cons rfl (sub_nil _))))))) rfl (by repeat (first | with_reducible exact HSub.refl _ | refine HSub.cons (by repeat (first | exact Take.here _ | apply Take.next | apply Take.app)) ?_ | refine HSub.app (by repeat (first | with_reducible exact TakeS.here _ | apply TakeS.next | apply TakeS.app)) ?_ | exact HSub.nil _ | exact HSub.refl _ | refine HSub.drop ?_ | refine HSub.dropS ?_))
  · simp only [cond_true, cond_false, Bool.and_eq_true, Bool.or_eq_true, Bool.and_eq_false_iff, Bool.or_eq_false_iff, decide_eq_true_eq, decide_eq_false_iff_not, Bool.not_eq_true', Bool.not_eq_false', ne_eq, Decidable.not_not] at c0
    refine W_exit rfl ?_
    refine W_sr ?_
    obtain ⟨a1, c1, rfl, hac1, _, hh1⟩ := Holds.of_own (w0 := w0) (H := XB ++ []) hX (fun p hp => List.mem_append_left _ hp)
    obtain ⟨a2, c2, rfl, hac2, _, hh2⟩ := Holds.of_own (w0 := w0) (H := WB ++ []) hW (fun p hp => List.mem_append_left _ hp)
    obtain ⟨a3, c3, rfl, hac3, _, hh3⟩ := Holds.of_own (w0 := w0) (H := AB ++ []) hA (fun p hp => List.mem_append_left _ hp)
    refine W_move rfl rfl ?_
    refine W_call (.cons rfl .nil) Try.call15 rfl (bytes_L (l := cuts l i) (by omega) (cuts_ok hg) (hh1.up (by repeat (first | with_reducible exact HSub.refl _ | refine HSub.cons (by repeat (first | exact Take.here _ | apply Take.next | apply Take.app)) ?_ | refine HSub.app (by repeat (first | with_reducible exact TakeS.here _ | apply TakeS.next | apply TakeS.app)) ?_ | exact HSub.nil _ | exact HSub.refl _ | refine HSub.drop ?_ | refine HSub.dropS ?_)))) ?_
    rintro v H' (⟨e, hF, rfl, rfl⟩ | ⟨hall0, sv, HB4, hO40, rfl, rfl⟩)
    · skip
      obtain ⟨hwe, hne⟩ : wantL (sts l i) = e ∧ e ≠ 0 := by unfold sts; exact wantL_first hF
      refine W_move rfl rfl ?_
      refine W_extract rfl rfl rfl ?_
      refine W_extract rfl rfl rfl ?_
      refine W_assign rfl rfl ?_
      refine W_assign rfl rfl ?_
      refine W_nil ?_
      refine W_seq ?_
      refine W_sr ?_
      refine W_move rfl rfl ?_
      refine W_bin rfl rfl b_neq rfl ?_
      refine W_nil ?_
      refine W_condT rfl (by rw [hwe]; simp [hne]) ?_
      refine W_sr ?_
      refine W_callp .nil Try.call10 rfl (T := fun _ => True) trivial (known_pure ) ?_
      refine W_move rfl rfl ?_
      refine W_gyes rfl rfl ?_
      refine W_move rfl rfl ?_
      refine W_gyes rfl rfl ?_
      refine W_move rfl rfl ?_
      refine W_gyes rfl rfl ?_
      refine W_bin rfl rfl b_eql rfl ?_
      rw [decide_eq_true (show e = wantL (sts l i) from hwe.symm)]
      first | refine W_pickt rfl rfl rfl ?_ | refine W_pickf rfl rfl rfl ?_
      refine W_move rfl rfl ?_
      refine W_gyes rfl rfl ?_
      refine W_move rfl rfl ?_
      refine W_gyes rfl rfl ?_
      refine W_len rfl ty22 rfl rfl ?_
      refine W_gyes rfl rfl ?_
      refine W_bin rfl rfl b_eql rfl ?_
      first | refine W_pickt rfl rfl rfl ?_ | refine W_pickf rfl rfl rfl ?_
      refine W_assign rfl rfl ?_
      refine W_nil ?_
      refine W_ret1m (H2 := H) Try.results4 rfl (.nil _) (by repeat (first | with_reducible exact HSub.refl _ | refine HSub.cons (by repeat (first | exact Take.here _ | apply Take.next | apply Take.app)) ?_ | refine HSub.app (by repeat (first | with_reducible exact TakeS.here _ | apply TakeS.next | apply TakeS.app)) ?_ | exact HSub.nil _ | exact HSub.refl _ | refine HSub.drop ?_ | refine HSub.dropS ?_)) ?_
      exact ⟨by simp, rfl⟩
    · skip
      have hall : ∀ s ∈ sts l i, chk s = 0 := by unfold sts; exact hall0
      have hwe : wantL (sts l i) = 0 := wantL_zero hall
      have hko : okL (sts l i) = sts l i := okL_all hall
      rw [hko] at hh2 hh3 hpl hel
      have hall2 : ∀ s ∈ sts l i, StOk s ∧ chk s = 0 := fun s hs => by
        obtain ⟨r, hr, rfl⟩ := sts_mem hs
        exact ⟨(cuts_ok (w0 := w0) (H := H) hg r hr).st, hall _ hs⟩
      have hO4 : OwnS 5 1 sv (encs (sts l i)).length (bytesV (encs (sts l i))) HB4 := by unfold sts; exact hO40
      obtain ⟨a4, c4, rfl, hac4, _, hh4⟩ := Holds.of_own (w0 := w0) (H := HB4 ++ []) hO4 (fun p hp => List.mem_append_left _ hp)
      refine W_move rfl rfl ?_
      refine W_extract rfl rfl rfl ?_
      refine W_extract rfl rfl rfl ?_
      refine W_assign rfl rfl ?_
      refine W_assign rfl rfl ?_
      refine W_nil ?_
      refine W_seq ?_
      refine W_sr ?_
      refine W_move rfl rfl ?_
      refine W_bin rfl rfl b_neq rfl ?_
      refine W_nil ?_
      refine W_condF rfl (by rw [hwe]; simp) ?_
      refine W_skip ?_
      refine W_sr ?_
      refine W_move rfl rfl ?_
      refine W_call (.cons rfl .nil) Try.call7 rfl (parse_L (b := encs (sts l i)) (encs_bytes hall2) (by omega) hac4 (hh4.up (by repeat (first | with_reducible exact HSub.refl _ | refine HSub.cons (by repeat (first | exact Take.here _ | apply Take.next | apply Take.app)) ?_ | refine HSub.app (by repeat (first | with_reducible exact TakeS.here _ | apply TakeS.next | apply TakeS.app)) ?_ | exact HSub.nil _ | exact HSub.refl _ | refine HSub.drop ?_ | refine HSub.dropS ?_)))) ?_
      rintro v H' ⟨es, HB5, HX5, hes, hO5, hokE, rfl⟩
      obtain ⟨a5, c5, rfl, hac5, _, hh5⟩ := Holds.of_own (w0 := w0) (H := HB5 ++ []) hO5 (fun p hp => List.mem_append_left _ hp)
      have hesl : es.length = i := by have := congrArg List.length hes; rw [List.length_map, parse_encs hall2, entsOf_len, hsl] at this; exact this
      refine W_assign rfl rfl ?_
      refine W_nil ?_
      refine W_sr ?_
      refine W_move rfl rfl ?_
      refine W_call (.cons rfl .nil) Try.call16 rfl (steps_L es (by omega) (hh5.up (by repeat (first | with_reducible exact HSub.refl _ | refine HSub.cons (by repeat (first | exact Take.here _ | apply Take.next | apply Take.app)) ?_ | refine HSub.app (by repeat (first | with_reducible exact TakeS.here _ | apply TakeS.next | apply TakeS.app)) ?_ | exact HSub.nil _ | exact HSub.refl _ | refine HSub.drop ?_ | refine HSub.dropS ?_)))) ?_
      rintro v6 H' ⟨HB6, hO6, rfl⟩
      obtain ⟨a6, c6, rfl, hac6, _, hh6⟩ := Holds.of_own (w0 := w0) (H := HB6 ++ []) hO6 (fun p hp => List.mem_append_left _ hp)
      have hst : stepsOf es = es.map Er.r := steps_all (fun e he => by
        have h1 : e.en ∈ es.map Er.en := List.mem_map.2 ⟨e, he, rfl⟩
        rw [hes, parse_encs hall2] at h1
        exact ents_err h1)
      have hstl : (stepsOf es).length = i := by rw [hst, List.length_map, hesl]
      refine W_assign rfl rfl ?_
      refine W_nil ?_
      refine W_seq ?_
      refine W_sr ?_
      refine W_move rfl rfl ?_
      refine W_bin rfl rfl b_neq rfl ?_
      refine W_move rfl rfl ?_
      refine W_gyes rfl rfl ?_
      refine W_move rfl rfl ?_
      refine W_gyes rfl rfl ?_
      refine W_move rfl rfl ?_
      refine W_gyes rfl rfl ?_
      refine W_callq (.cons rfl (.cons rfl .nil)) Try.call17 rfl (same13_eq (by rw [hko]) (by omega) (hh4.up (by repeat (first | with_reducible exact HSub.refl _ | refine HSub.cons (by repeat (first | exact Take.here _ | apply Take.next | apply Take.app)) ?_ | refine HSub.app (by repeat (first | with_reducible exact TakeS.here _ | apply TakeS.next | apply TakeS.app)) ?_ | exact HSub.nil _ | exact HSub.refl _ | refine HSub.drop ?_ | refine HSub.dropS ?_))) (by rw [hko]; exact hh2.up (by repeat (first | with_reducible exact HSub.refl _ | refine HSub.cons (by repeat (first | exact Take.here _ | apply Take.next | apply Take.app)) ?_ | refine HSub.app (by repeat (first | with_reducible exact TakeS.here _ | apply TakeS.next | apply TakeS.app)) ?_ | exact HSub.nil _ | exact HSub.refl _ | refine HSub.drop ?_ | refine HSub.dropS ?_)))) ?_
      refine W_gyes rfl rfl ?_
      refine W_not rfl rfl ?_
      first | refine W_pickt rfl rfl rfl ?_ | refine W_pickf rfl rfl rfl ?_
      refine W_move rfl rfl ?_
      refine W_gyes rfl rfl ?_
      refine W_move rfl rfl ?_
      refine W_gyes rfl rfl ?_
      refine W_len rfl ty23 rfl rfl ?_
      refine W_gyes rfl rfl ?_
      refine W_move rfl rfl ?_
      refine W_gyes rfl rfl ?_
      refine W_len rfl ty40 rfl rfl ?_
      refine W_gyes rfl rfl ?_
      refine W_bin rfl rfl b_neq rfl ?_
      rw [decide_eq_false (by rw [hesl, hcl]; simp)]
      first | refine W_pickt rfl rfl rfl ?_ | refine W_pickf rfl rfl rfl ?_
      refine W_move rfl rfl ?_
      refine W_gyes rfl rfl ?_
      refine W_move rfl rfl ?_
      refine W_gyes rfl rfl ?_
      refine W_len rfl ty40 rfl rfl ?_
      refine W_gyes rfl rfl ?_
      refine W_move rfl rfl ?_
      refine W_gyes rfl rfl ?_
      refine W_len rfl ty40 rfl rfl ?_
      refine W_gyes rfl rfl ?_
      refine W_bin rfl rfl b_neq rfl ?_
      rw [decide_eq_false (by rw [hstl, hcl]; simp)]
      first | refine W_pickt rfl rfl rfl ?_ | refine W_pickf rfl rfl rfl ?_
      refine W_nil ?_
      refine W_condF rfl rfl ?_
      refine W_skip ?_
      refine W_seq ?_
      refine W_sr ?_
      refine W_assign rfl rfl ?_
      refine W_nil ?_
      refine W_block ?_
      refine W_loopC (X := Nat) [(3, _), (5, _), (12, _), (13, _)] (fun (j : Nat) => [(14, .int .i64 (j : Int))]) (fun _ => _) (fun _ => _) (fun (j : Nat) => j ≤ es.length) (fun (j : Nat) => es.length - j) 0 (Nat.zero_le _) (sub_cons rfl (sub_cons rfl (sub_cons rfl (sub_cons rfl (sub_nil _))))) (sub_cons rfl (sub_nil _)) rfl (by repeat (first | with_reducible exact HSub.refl _ | refine HSub.cons (by repeat (first | exact Take.here _ | apply Take.next | apply Take.app)) ?_ | refine HSub.app (by repeat (first | with_reducible exact TakeS.here _ | apply TakeS.next | apply TakeS.app)) ?_ | exact HSub.nil _ | exact HSub.refl _ | refine HSub.drop ?_ | refine HSub.dropS ?_)) ?_
      intro j hj
      simp only [List.cons_append, List.nil_append]
      refine W_seq ?_
      refine W_sr ?_
      refine W_move rfl rfl ?_
      refine W_move rfl rfl ?_
      refine W_len rfl ty23 rfl rfl ?_
      refine W_bin rfl rfl b_lss rfl ?_
      refine W_nil ?_
      refine W_condPS (p := (j : Int) < (es.length : Int)) rfl (by simp) (fun c1 => ?_) (fun c1 => ?_)
      · skip
        refine W_skip ?_
        refine W_seq ?_
        refine W_block ?_
        refine W_quietsr (by kernel_rfl) (by decide +kernel) ?_
        obtain ⟨e, he⟩ : ∃ e, es[j]? = some e := ⟨_, List.getElem?_eq_getElem (by omega)⟩
        obtain ⟨y, hy⟩ : ∃ y, (cuts l i)[j]? = some y := ⟨_, List.getElem?_eq_getElem (by omega)⟩
        obtain ⟨q5, p5, rfl, hce⟩ := hh5.row er_len (by decide) he
        obtain ⟨q1, p1, rfl, hcy⟩ := hh1.row sr_len (by decide) hy
        have hz : (stepsOf es)[j]? = some e.r := by rw [hst, List.getElem?_map, he]; rfl
        obtain ⟨q6, p6, rfl, hcz⟩ := hh6.row sr_len (by decide) hz
        obtain ⟨q3, p3, rfl, hcp⟩ := hh3.at (i := j) (posL_at (l := sts l i) (by omega))
        have hys : (sts l i)[j]? = some y.st := sts_at hy
        have hee : e.en = ⟨0 + (encs ((sts l i).take j)).length, y.st, 0⟩ := by
          have h1 : (es.map Er.en)[j]? = some e.en := by rw [List.getElem?_map, he]; rfl
          rw [hes, parse_encs hall2, entsOf_at _ _ _ _ hys] at h1
          exact (Option.some.inj h1).symm
        simp only [Er.en, En.mk.injEq, Nat.zero_add] at hee
        obtain ⟨hea, hest, herr⟩ := hee
        refine WQ_x (X_move rfl) rfl ?_
        refine WQ_x (X_move rfl) rfl ?_
        refine WQ_x (X_indexAddr (j := j) rfl rfl ty23 ty32 (by first | rfl | omega) (by first | decide | omega | simp) rfl) rfl ?_
        refine WQ_x (X_fieldAddr rfl fld32_2 (by decide)) rfl ?_
        refine WQ_x (X_load rfl ty30 rfl (v := .int .i64 e.err) ((hce 8 _ rfl).up (by repeat (first | with_reducible exact HSub.refl _ | refine HSub.cons (by repeat (first | exact Take.here _ | apply Take.next | apply Take.app)) ?_ | refine HSub.app (by repeat (first | with_reducible exact TakeS.here _ | apply TakeS.next | apply TakeS.app)) ?_ | exact HSub.nil _ | exact HSub.refl _ | refine HSub.drop ?_ | refine HSub.dropS ?_)))) rfl ?_
        refine WQ_x (X_bin rfl rfl b_neq) rfl ?_
        rw [decide_eq_false (by rw [herr]; simp)]
        refine WQ_x (X_move rfl) rfl ?_
        refine WQ_gyes rfl rfl ?_
        refine WQ_x (X_move rfl) rfl ?_
        refine WQ_gyes rfl rfl ?_
        refine WQ_x (X_move rfl) rfl ?_
        refine WQ_gyes rfl rfl ?_
        refine WQ_x (X_indexAddr (j := j) rfl rfl ty23 ty32 (by first | rfl | omega) (by first | decide | omega | simp) rfl) rfl ?_
        refine WQ_gyes rfl rfl ?_
        refine WQ_x (X_fieldAddr rfl fld32_0 (by decide)) rfl ?_
        refine WQ_gyes rfl rfl ?_
        refine WQ_x (X_load rfl ty3 rfl (v := .int .i64 (e.at_ : Int)) ((hce 0 _ rfl).up (by repeat (first | with_reducible exact HSub.refl _ | refine HSub.cons (by repeat (first | exact Take.here _ | apply Take.next | apply Take.app)) ?_ | refine HSub.app (by repeat (first | with_reducible exact TakeS.here _ | apply TakeS.next | apply TakeS.app)) ?_ | exact HSub.nil _ | exact HSub.refl _ | refine HSub.drop ?_ | refine HSub.dropS ?_)))) rfl ?_
        refine WQ_gyes rfl rfl ?_
        refine WQ_x (X_move rfl) rfl ?_
        refine WQ_gyes rfl rfl ?_
        refine WQ_x (X_move rfl) rfl ?_
        refine WQ_gyes rfl rfl ?_
        refine WQ_x (X_indexAddr (j := j) rfl rfl ty41 ty3 rfl (by rw [hko]; omega) rfl) rfl ?_
        refine WQ_gyes rfl rfl ?_
        refine WQ_x (X_load rfl ty3 rfl (v := .int .i64 ((encs ((sts l i).take j)).length : Int)) (by rw [Nat.mul_one]; exact hcp.up (by repeat (first | with_reducible exact HSub.refl _ | refine HSub.cons (by repeat (first | exact Take.here _ | apply Take.next | apply Take.app)) ?_ | refine HSub.app (by repeat (first | with_reducible exact TakeS.here _ | apply TakeS.next | apply TakeS.app)) ?_ | exact HSub.nil _ | exact HSub.refl _ | refine HSub.drop ?_ | refine HSub.dropS ?_)))) rfl ?_
        refine WQ_gyes rfl rfl ?_
        refine WQ_x (X_bin rfl rfl b_neq) rfl ?_
        rw [decide_eq_false (by rw [hea]; simp)]
        first | refine WQ_x (X_pickt rfl rfl) rfl ?_ | refine WQ_x (X_pickf rfl rfl) rfl ?_
        refine WQ_x (X_move rfl) rfl ?_
        refine WQ_gyes rfl rfl ?_
        refine WQ_x (X_move rfl) rfl ?_
        refine WQ_gyes rfl rfl ?_
        refine WQ_x (X_move rfl) rfl ?_
        refine WQ_gyes rfl rfl ?_
        refine WQ_x (X_indexAddr (j := j) rfl rfl ty23 ty32 (by first | rfl | omega) (by first | decide | omega | simp) rfl) rfl ?_
        refine WQ_gyes rfl rfl ?_
        refine WQ_x (X_fieldAddr rfl fld32_1 (by decide)) rfl ?_
        refine WQ_gyes rfl rfl ?_
        refine WQ_x (X_loadA rfl ty29 rfl (vs := e.r.cells) rfl ((Cells.within (j := 1) hce rfl).up (by repeat (first | with_reducible exact HSub.refl _ | refine HSub.cons (by repeat (first | exact Take.here _ | apply Take.next | apply Take.app)) ?_ | refine HSub.app (by repeat (first | with_reducible exact TakeS.here _ | apply TakeS.next | apply TakeS.app)) ?_ | exact HSub.nil _ | exact HSub.refl _ | refine HSub.drop ?_ | refine HSub.dropS ?_)))) rfl ?_
        refine WQ_gyes rfl rfl ?_
        refine WQ_x (X_move rfl) rfl ?_
        refine WQ_gyes rfl rfl ?_
        refine WQ_x (X_move rfl) rfl ?_
        refine WQ_gyes rfl rfl ?_
        refine WQ_x (X_indexAddr (j := j) rfl rfl ty40 ty29 (by first | rfl | omega) (by first | decide | omega | simp) rfl) rfl ?_
        refine WQ_gyes rfl rfl ?_
        refine WQ_x (X_loadA rfl ty29 rfl (vs := y.cells) rfl (hcy.up (by repeat (first | with_reducible exact HSub.refl _ | refine HSub.cons (by repeat (first | exact Take.here _ | apply Take.next | apply Take.app)) ?_ | refine HSub.app (by repeat (first | with_reducible exact TakeS.here _ | apply TakeS.next | apply TakeS.app)) ?_ | exact HSub.nil _ | exact HSub.refl _ | refine HSub.drop ?_ | refine HSub.dropS ?_)))) rfl ?_
        refine WQ_gyes rfl rfl ?_
        refine WQ_callq (.cons rfl (.cons rfl .nil)) Try.call18 rfl (sameT_q hest ((hokE _ (List.mem_of_getElem? he)).up (by repeat (first | exact HSub.refl _ | exact hsub_left | refine HSub.dropS ?_ | refine HSub.drop ?_))) (cuts_ok hg _ (List.mem_of_getElem? hy))) ?_
        refine WQ_gyes rfl rfl ?_
        refine WQ_x (X_not rfl) rfl ?_
        first | refine WQ_x (X_pickt rfl rfl) rfl ?_ | refine WQ_x (X_pickf rfl rfl) rfl ?_
        refine WQ_x (X_move rfl) rfl ?_
        refine WQ_gyes rfl rfl ?_
        refine WQ_x (X_move rfl) rfl ?_
        refine WQ_gyes rfl rfl ?_
        refine WQ_x (X_move rfl) rfl ?_
        refine WQ_gyes rfl rfl ?_
        refine WQ_x (X_indexAddr (j := j) rfl rfl ty40 ty29 (by first | rfl | omega) (by first | decide | omega | simp) rfl) rfl ?_
        refine WQ_gyes rfl rfl ?_
        refine WQ_x (X_loadA rfl ty29 rfl (vs := e.r.cells) rfl (hcz.up (by repeat (first | with_reducible exact HSub.refl _ | refine HSub.cons (by repeat (first | exact Take.here _ | apply Take.next | apply Take.app)) ?_ | refine HSub.app (by repeat (first | with_reducible exact TakeS.here _ | apply TakeS.next | apply TakeS.app)) ?_ | exact HSub.nil _ | exact HSub.refl _ | refine HSub.drop ?_ | refine HSub.dropS ?_)))) rfl ?_
        refine WQ_gyes rfl rfl ?_
        refine WQ_x (X_move rfl) rfl ?_
        refine WQ_gyes rfl rfl ?_
        refine WQ_x (X_move rfl) rfl ?_
        refine WQ_gyes rfl rfl ?_
        refine WQ_x (X_indexAddr (j := j) rfl rfl ty40 ty29 (by first | rfl | omega) (by first | decide | omega | simp) rfl) rfl ?_
        refine WQ_gyes rfl rfl ?_
        refine WQ_x (X_loadA rfl ty29 rfl (vs := y.cells) rfl (hcy.up (by repeat (first | with_reducible exact HSub.refl _ | refine HSub.cons (by repeat (first | exact Take.here _ | apply Take.next | apply Take.app)) ?_ | refine HSub.app (by repeat (first | with_reducible exact TakeS.here _ | apply TakeS.next | apply TakeS.app)) ?_ | exact HSub.nil _ | exact HSub.refl _ | refine HSub.drop ?_ | refine HSub.dropS ?_)))) rfl ?_
        refine WQ_gyes rfl rfl ?_
        refine WQ_callq (.cons rfl (.cons rfl .nil)) Try.call18 rfl (sameT_q hest ((hokE _ (List.mem_of_getElem? he)).up (by repeat (first | exact HSub.refl _ | exact hsub_left | refine HSub.dropS ?_ | refine HSub.drop ?_))) (cuts_ok hg _ (List.mem_of_getElem? hy))) ?_
        refine WQ_gyes rfl rfl ?_
        refine WQ_x (X_not rfl) rfl ?_
        first | refine WQ_x (X_pickt rfl rfl) rfl ?_ | refine WQ_x (X_pickf rfl rfl) rfl ?_
        refine WQ_nil ?_
        refine W_condF rfl rfl ?_
        refine W_skip ?_
        refine W_blk ?_
        refine W_region ?_
        refine W_move rfl rfl ?_
        refine W_bin rfl rfl (b_add (m := ((j + 1 : Nat) : Int)) ((i64w (by omega)).trans (by omega))) rfl ?_
        refine W_assign rfl rfl ?_
        refine W_nil ?_
        refine W_again (j + 1) (by omega) (by omega) (sub_cons rfl (sub_cons rfl (sub_cons rfl (sub_cons rfl (sub_cons rfl (sub_nil _)))))) rfl (by repeat (first | with_reducible exact HSub.refl _ | refine HSub.cons (by repeat (first | exact Take.here _ | apply Take.next | apply Take.app)) ?_ | refine HSub.app (by repeat (first | with_reducible exact TakeS.here _ | apply TakeS.next | apply TakeS.app)) ?_ | exact HSub.nil _ | exact HSub.refl _ | refine HSub.drop ?_ | refine HSub.dropS ?_))
      · skip
        refine W_exit rfl ?_
        refine W_sr ?_
        refine W_callp .nil Try.call10 rfl (T := fun _ => True) trivial (known_pure ) ?_
        refine W_assign rfl rfl ?_
        refine W_nil ?_
        refine W_ret1m (H2 := H) Try.results4 rfl (.nil _) (by repeat (first | with_reducible exact HSub.refl _ | refine HSub.cons (by repeat (first | exact Take.here _ | apply Take.next | apply Take.app)) ?_ | refine HSub.app (by repeat (first | with_reducible exact TakeS.here _ | apply TakeS.next | apply TakeS.app)) ?_ | exact HSub.nil _ | exact HSub.refl _ | refine HSub.drop ?_ | refine HSub.dropS ?_)) ?_
        exact ⟨by simp, rfl⟩
end Go.Proofs.Ytkhkagjbeilbgaa
