/-
  Own work: contracts of functions that the statement reaches, and plain facts on what they compute; each theorem says its conditions.
-/
import Derived.Test.YtkhkagjbeilbgaaS12
set_option linter.all false
set_option linter.unusedSimpArgs false
set_option linter.unusedVariables false
namespace Go.Proofs.Ytkhkagjbeilbgaa
open Go Go.Sl
attribute [local irreducible] W
open Go.Script

theorem parseF_len : ∀ (f a : Nat) (b : List Int), (parseF f a b).length ≤ f
  | 0, _, _ => Nat.le_refl _
  | f + 1, a, b => by
    unfold parseF
    split
    · simp
    · split
      · simp
      · simp only
        split
        · simp
        · have := parseF_len f (a + (3 + (numL ((b.drop 1).take 2)).toNat)) (b.drop (3 + (numL ((b.drop 1).take 2)).toNat))
          simp only [List.length_cons]; omega
theorem parse_len (b : List Int) : (parse b).length ≤ b.length := parseF_len _ _ _
theorem erRow_append (l : List Er) (x : Er) : erRow (l ++ [x]) = erRow l ++ x.cells := by simp [erRow]
set_option maxHeartbeats 1000000 in
theorem entries_L {w0 : World} {H : Heap} (v : Value) (hv : v.cells.toList = [v])  : LCalls Try.prog w0 20 #[v] (H) (fun v' H' => ∃ bc, v' = .func (.func 36) #[] #[.pointer (some ⟨bc, 0, none⟩)] ∧ H' = (bc, .cells 22 1 [v]) :: H) := by
  refine L_enter (l := [v]) Try.func20 rfl Try.ntmps20 rfl rfl ?_
  refine W_sr ?_
  refine W_box rfl hv rfl (fun b1 => ?_)
  refine W_assign rfl rfl ?_
  refine W_nil ?_
  refine W_sr ?_
  refine W_makeFunc .nil (.cons rfl .nil) rfl ?_
  refine W_assign rfl rfl ?_
  refine W_nil ?_
  refine W_ret1m (H2 := (b1, .cells 22 1 [v]) :: H) Try.results20 rfl (.nil _) (by repeat (first | exact HSub.refl _ | refine HSub.cons (by repeat (first | exact Take.here _ | apply Take.next | apply Take.app)) ?_ | refine HSub.app (by repeat (first | exact TakeS.here _ | apply TakeS.next | apply TakeS.app)) ?_ | refine HSub.drop ?_ | refine HSub.dropS ?_ | exact HSub.nil _)) ?_
  exact ⟨b1, rfl, rfl⟩
set_option maxHeartbeats 4000000 in
theorem parse_L {w0 : World} {H : Heap} {b : List Int} {ad : Option Addr} {cap : Nat} (hb : Go.Script.Bytes b) (hl : b.length ≤ 100000) (hlc : b.length ≤ cap) (hrow : Holds w0 H ad (bytesV b))  : LCalls Try.prog w0 7 #[.slice ad b.length cap] (H) (fun v H' => ∃ es HB HX, es.map Er.en = parse b ∧ OwnS 32 9 v es.length (erRow es) HB ∧ (∀ e ∈ es, SrOk w0 HX e.r) ∧ H' = HB ++ (HX ++ H)) := by
  refine L_enter (l := [.slice ad b.length cap]) Try.func7 rfl Try.ntmps7 rfl rfl ?_
  refine W_sr ?_
  refine W_assign rfl rfl ?_
  refine W_nil ?_
  refine W_sr ?_
  refine W_alloc ty23 rfl rfl (fun b3 => ?_)
  refine W_nil ?_
  refine W_seq ?_
  refine W_sr ?_
  refine W_move rfl rfl ?_
  refine W_call (.cons rfl .nil) Try.call20 rfl (entries_L _ rfl) ?_
  rintro v' H' ⟨bc, rfl, rfl⟩
  refine W_nil ?_
  refine W_block ?_
  refine W_rangeFunc rfl Try.call36 ?_
  intro lp D r hst hpd hps hasg hbody hA
  have hr := loop_ready hst hpd
  show LCalls _ _ _ #[_, _] _ _
  refine ((entries_iter (l := lp) (bc := bc) (H := (lp, .obj (.loop r)) :: (D, .obj (.deferred (some []))) :: (b3, .cells 23 1 [.slice none 0 0]) :: ([] ++ ([] ++ H))) hb hl hlc
    (fun j Hi => ∃ es v HB HX, es.map Er.en = (parse b).take j ∧ OwnS 32 9 v es.length (erRow es) HB ∧ (∀ e ∈ es, SrOk w0 HX e.r) ∧ Hi = (lp, .obj (.loop r)) :: (D, .obj (.deferred (some []))) :: (b3, .cells 23 1 [v]) :: (HB ++ (HX ++ H))) (fun _ => False)
    (by rintro i Hi ⟨es, v, HB, HX, _, _, _, rfl⟩; exact hrow.up (by repeat (first | exact HSub.refl _ | refine HSub.cons (by repeat (first | exact Take.here _ | apply Take.next | apply Take.app)) ?_ | refine HSub.app (by repeat (first | exact TakeS.here _ | apply TakeS.next | apply TakeS.app)) ?_ | refine HSub.drop ?_ | refine HSub.dropS ?_ | exact HSub.nil _))) ?_ ⟨[], _, [], [], rfl, .nil, (fun e he => by cases he), rfl⟩).hsub (by repeat (first | exact HSub.refl _ | refine HSub.cons (by repeat (first | exact Take.here _ | apply Take.next | apply Take.app)) ?_ | refine HSub.app (by repeat (first | exact TakeS.here _ | apply TakeS.next | apply TakeS.app)) ?_ | refine HSub.drop ?_ | refine HSub.dropS ?_ | exact HSub.nil _))).mono ?_
  · intro j x Hi HR e hx hen hro hJ
    obtain ⟨es, v, HB, HX, hes, hO, hok, rfl⟩ := hJ
    have hlen : es.length ≤ 100000 := by
      have h1 := congrArg List.length hes
      have h2 := parse_len b
      simp only [List.length_map, List.length_take] at h1
      omega
    refine round_intro hst hpd hA hps rfl hasg rfl rfl rfl (by repeat (first | exact Take.here _ | apply Take.next | apply Take.app)) ?_
    refine W_region ?_
    refine W_alloc ty32 rfl rfl (fun b4 => ?_)
    refine W_storeA rfl rfl ty32 rfl rfl (by repeat (first | exact List.mem_cons_self | apply List.mem_cons_of_mem | apply List.mem_append_right)) (Nat.le_of_ble_eq_true rfl) (by simp only [fillL, spliceL, Value.cells, List.take_zero, List.take_succ_cons, List.take_nil, List.drop_zero, List.drop_succ_cons, List.drop_nil, List.nil_append, List.cons_append, List.append_nil, List.length_cons, List.length_nil, Nat.zero_add, Nat.reduceAdd, List.toList_toArray]; rfl) (by repeat (first | exact Upd.head _ | apply Upd.tail | apply Upd.app)) ?_
    refine W_nil ?_
    refine W_begin hst hpd (by repeat (first | exact Take.here _ | apply Take.next | apply Take.app)) hbody ?_
    refine W_block ?_
    refine W_region ?_
    refine W_load rfl ty23 rfl (Cell.own (by repeat (first | exact List.mem_cons_self | apply List.mem_cons_of_mem | apply List.mem_append_right)) rfl) rfl ?_
    refine W_loadB rfl ty32 rfl (by repeat (first | exact List.mem_cons_self | apply List.mem_cons_of_mem | apply List.mem_append_right)) rfl (by simp only [fillL, spliceL, Value.cells, List.take_zero, List.take_succ_cons, List.take_nil, List.drop_zero, List.drop_succ_cons, List.drop_nil, List.nil_append, List.cons_append, List.append_nil, List.length_cons, List.length_nil, Nat.zero_add, Nat.reduceAdd, List.toList_toArray]; rfl) rfl ?_
    refine W_buildSlice ty23 ty32 (.cons rfl rfl rfl rfl rfl .nil) rfl rfl rfl rfl rfl rfl rfl (fun b10 => ?_)
    refine W_append (news := e.cells) (m := 1) (HB := HB) (H0 := HR ++ ((bc, .cells 22 1 [.slice ad b.length cap]) :: (lp, .obj (.loop (Loop.at r .busy none))) :: (D, .obj (.deferred (some []))) :: (b3, .cells 23 1 [v]) :: (HX ++ H))) rfl rfl ty23 ty32 rfl (by decide) hO rfl (Holds.own List.mem_cons_self) rfl (by simp only [maxLen]; omega) (by omega) (by repeat (first | exact HSub.refl _ | refine HSub.cons (by repeat (first | exact Take.here _ | apply Take.next | apply Take.app)) ?_ | refine HSub.app (by repeat (first | exact TakeS.here _ | apply TakeS.next | apply TakeS.app)) ?_ | refine HSub.drop ?_ | refine HSub.dropS ?_ | exact HSub.nil _)) rfl (fun v' HB' hO' => ?_)
    obtain ⟨adv, capv, rfl, _, _⟩ := hO'.shape
    refine W_store rfl rfl ty23 rfl rfl (by repeat (first | exact List.mem_cons_self | apply List.mem_cons_of_mem | apply List.mem_append_right)) rfl rfl (by repeat (first | exact Upd.head _ | apply Upd.tail | apply Upd.app)) ?_
    refine W_nil ?_
    refine W_blk ?_
    refine W_endround (by repeat (first | exact Take.here _ | apply Take.next | apply Take.app)) ?_
    rw [hr]
    exact ⟨_, (by simp only [List.append_assoc]; repeat (first | exact HSub.refl _ | refine HSub.cons (by repeat (first | exact Take.here _ | apply Take.next | apply Take.app)) ?_ | refine HSub.app (by repeat (first | exact TakeS.here _ | apply TakeS.next | apply TakeS.app)) ?_ | refine HSub.drop ?_ | refine HSub.dropS ?_ | exact HSub.nil _)), .inl ⟨rfl, es ++ [e], _, HB', HR ++ HX, by rw [takeAt hx, List.map_append, hes]; simp [hen], by rw [erRow_append, List.length_append]; exact hO',
      (by intro e' he'; rcases List.mem_append.1 he' with h | h; exact (hok e' h).up hsub_right; (simp at h; subst h; exact hro.up hsub_left)), rfl⟩⟩
  · intro _ H' hp
    obtain ⟨Hi', hs, hJS⟩ := hp
    obtain ⟨es, v, HB, HX, hes, hO, hok, rfl⟩ := hJS.resolve_right id
    refine ⟨.ready, none, (D, .obj (.deferred (some []))) :: (b3, .cells 23 1 [v]) :: (HB ++ (HX ++ H)), by rw [hr]; exact hs.trans (by repeat (first | exact HSub.refl _ | refine HSub.cons (by repeat (first | exact Take.here _ | apply Take.next | apply Take.app)) ?_ | refine HSub.app (by repeat (first | exact TakeS.here _ | apply TakeS.next | apply TakeS.app)) ?_ | refine HSub.drop ?_ | refine HSub.dropS ?_ | exact HSub.nil _)), by decide, ?_⟩
    show W _ _ _ _ _ _ _ _ _
    refine W_blk ?_
    refine W_sr ?_
    refine W_load rfl ty23 rfl (Cell.own (by repeat (first | exact List.mem_cons_self | apply List.mem_cons_of_mem | apply List.mem_append_right)) rfl) rfl ?_
    refine W_assign rfl rfl ?_
    refine W_nil ?_
    refine W_ret1m (H2 := HB ++ (HX ++ H)) Try.results7 rfl (.cons (by repeat (first | exact Take.here _ | apply Take.next | apply Take.app)) (.nil _)) (by repeat (first | exact HSub.refl _ | refine HSub.cons (by repeat (first | exact Take.here _ | apply Take.next | apply Take.app)) ?_ | refine HSub.app (by repeat (first | exact TakeS.here _ | apply TakeS.next | apply TakeS.app)) ?_ | refine HSub.drop ?_ | refine HSub.dropS ?_ | exact HSub.nil _)) ?_
    exact ⟨es, HB, HX, by rw [hes, List.take_length], hO, hok, rfl⟩

/-- the steps of right entries -/
def stepsOf (l : List Er) : List Sr := l.filterMap fun e => if e.err = 0 then some e.r else none
theorem steps_ok (l : List Er) {x : Er} (h : x.err = 0) : stepsOf (l ++ [x]) = stepsOf l ++ [x.r] := by simp [stepsOf, List.filterMap_append, h]
theorem steps_bad (l : List Er) {x : Er} (h : ¬ x.err = 0) : stepsOf (l ++ [x]) = stepsOf l := by simp [stepsOf, List.filterMap_append, h]
theorem steps_le (l : List Er) : (stepsOf l).length ≤ l.length := List.length_filterMap_le _ _
set_option maxHeartbeats 1000000 in
theorem steps_L {w0 : World} {H : Heap} (l : List Er) {ad : Option Addr} {cap : Nat} (hl : l.length ≤ 1000000) (hrow : Holds w0 H ad (erRow l))  : LCalls Try.prog w0 16 #[.slice ad l.length cap] (H) (fun v H' => ∃ HB, OwnS 29 7 v (stepsOf l).length (srRow (stepsOf l)) HB ∧ H' = HB ++ H) := by
  refine L_enter (l := [.slice ad l.length cap]) Try.func16 rfl Try.ntmps16 rfl rfl ?_
  refine W_sr ?_
  refine W_assign rfl rfl ?_
  refine W_nil ?_
  refine W_sr ?_
  refine W_assign rfl rfl ?_
  refine W_nil ?_
  refine W_seq ?_
  refine W_sr ?_
  refine W_move rfl rfl ?_
  refine W_len rfl ty23 rfl rfl ?_
  refine W_move rfl rfl ?_
  refine W_nil ?_
  refine W_block ?_
  refine W_loopC (X := (Nat × Value × Heap)) [(6, _), (7, _)] (fun (x : (Nat × Value × Heap)) => [(3, x.2.1), (8, .int .i64 (x.1 : Int))]) (fun _ => _) (fun (x : (Nat × Value × Heap)) => x.2.2 ++ H) (fun (x : (Nat × Value × Heap)) => x.1 ≤ l.length ∧ OwnS 29 7 x.2.1 (stepsOf (l.take x.1)).length (srRow (stepsOf (l.take x.1))) x.2.2) (fun (x : (Nat × Value × Heap)) => l.length - x.1) (0, .slice none 0 0, []) ⟨by simp, .nil⟩ (sub_cons rfl (sub_cons rfl (sub_nil _))) (sub_cons rfl (sub_cons rfl (sub_nil _))) rfl (by repeat (first | exact HSub.refl _ | refine HSub.cons (by repeat (first | exact Take.here _ | apply Take.next | apply Take.app)) ?_ | refine HSub.app (by repeat (first | exact TakeS.here _ | apply TakeS.next | apply TakeS.app)) ?_ | refine HSub.drop ?_ | refine HSub.dropS ?_ | exact HSub.nil _)) ?_
  rintro ⟨i, v, HB⟩ ⟨hi, hO⟩
  dsimp only at hi hO ⊢
  have hsl := steps_le (l.take i)
  rw [List.length_take] at hsl
  simp only [List.cons_append, List.nil_append]
  refine W_sr ?_
  refine W_bin rfl rfl b_lss rfl ?_
  refine W_nil ?_
  refine W_seq ?_
  refine W_condPS (p := (i : Int) < (l.length : Int)) rfl (by simp) (fun c0 => ?_) (fun c0 => ?_)
  · skip
    refine W_skip ?_
    refine W_seq ?_
    refine W_block ?_
    refine W_sr ?_
    obtain ⟨x, hx⟩ : ∃ x, l[i]? = some x := ⟨_, List.getElem?_eq_getElem (by omega)⟩
    obtain ⟨b0, o0, rfl, hcx⟩ := hrow.row er_len (by decide) hx
    refine W_indexAddr (j := i) rfl rfl ty23 ty32 rfl (by omega) rfl rfl ?_
    refine W_loadA rfl ty32 rfl (vs := x.cells) rfl (hcx.up (by repeat (first | exact HSub.refl _ | refine HSub.cons (by repeat (first | exact Take.here _ | apply Take.next | apply Take.app)) ?_ | refine HSub.app (by repeat (first | exact TakeS.here _ | apply TakeS.next | apply TakeS.app)) ?_ | refine HSub.drop ?_ | refine HSub.dropS ?_ | exact HSub.nil _))) rfl ?_
    refine W_alloc ty32 rfl rfl (fun b5 => ?_)
    refine W_storeA rfl rfl ty32 rfl rfl (by repeat (first | exact List.mem_cons_self | apply List.mem_cons_of_mem | apply List.mem_append_right)) (Nat.le_of_ble_eq_true rfl) (by simp only [fillL, spliceL, Value.cells, List.take_zero, List.take_succ_cons, List.take_nil, List.drop_zero, List.drop_succ_cons, List.drop_nil, List.nil_append, List.cons_append, List.append_nil, List.length_cons, List.length_nil, Nat.zero_add, Nat.reduceAdd, List.toList_toArray]; rfl) (by repeat (first | exact Upd.head _ | apply Upd.tail | apply Upd.app)) ?_
    refine W_nil ?_
    refine W_sr ?_
    refine W_fieldAddr rfl fld32_2 (by decide) rfl ?_
    refine W_load rfl ty30 rfl (Cell.own (by repeat (first | exact List.mem_cons_self | apply List.mem_cons_of_mem | apply List.mem_append_right)) rfl) rfl ?_
    refine W_bin rfl rfl b_eql rfl ?_
    refine W_nil ?_
    refine W_condPS (p := x.err = 0) rfl (by simp) (fun c1 => ?_) (fun c1 => ?_)
    · skip
      refine W_region ?_
      refine W_move rfl rfl ?_
      refine W_fieldAddr rfl fld32_1 (by decide) rfl ?_
      refine W_loadB rfl ty29 rfl (by repeat (first | exact List.mem_cons_self | apply List.mem_cons_of_mem | apply List.mem_append_right)) rfl (vs := x.r.cells) rfl rfl ?_
      refine W_buildSlice ty40 ty29 (.cons rfl rfl rfl rfl rfl .nil) rfl rfl rfl rfl rfl rfl rfl (fun b18 => ?_)
      refine W_append (news := x.r.cells) (m := 1) (HB := HB) (H0 := H) rfl rfl ty40 ty29 rfl (by decide) hO rfl (Holds.own List.mem_cons_self) rfl (by simp only [maxLen]; omega) (by omega) (by repeat (first | exact HSub.refl _ | refine HSub.cons (by repeat (first | exact Take.here _ | apply Take.next | apply Take.app)) ?_ | refine HSub.app (by repeat (first | exact TakeS.here _ | apply TakeS.next | apply TakeS.app)) ?_ | refine HSub.drop ?_ | refine HSub.dropS ?_ | exact HSub.nil _)) rfl (fun v' HB' hO' => ?_)
      refine W_assign rfl rfl ?_
      refine W_nil ?_
      refine W_blk ?_
      refine W_region ?_
      refine W_bin rfl rfl (b_add (m := ((i + 1 : Nat) : Int)) ((i64w (by omega)).trans (by omega))) rfl ?_
      refine W_move rfl rfl ?_
      refine W_nil ?_
      refine W_again (i + 1, v', HB') ⟨by show i + 1 ≤ l.length; omega, by rw [takeAt hx, steps_ok _ c1, List.length_append, srRow_append]; exact hO'⟩ (by show l.length - (i + 1) < l.length - i; omega) (sub_cons rfl (sub_cons rfl (sub_cons rfl (sub_cons rfl (sub_nil _))))) rfl (by repeat (first | exact HSub.refl _ | refine HSub.cons (by repeat (first | exact Take.here _ | apply Take.next | apply Take.app)) ?_ | refine HSub.app (by repeat (first | exact TakeS.here _ | apply TakeS.next | apply TakeS.app)) ?_ | refine HSub.drop ?_ | refine HSub.dropS ?_ | exact HSub.nil _))
    · skip
      refine W_skip ?_
      refine W_blk ?_
      refine W_region ?_
      refine W_bin rfl rfl (b_add (m := ((i + 1 : Nat) : Int)) ((i64w (by omega)).trans (by omega))) rfl ?_
      refine W_move rfl rfl ?_
      refine W_nil ?_
      refine W_again (i + 1, v, HB) ⟨by show i + 1 ≤ l.length; omega, by rw [takeAt hx, steps_bad _ c1]; exact hO⟩ (by show l.length - (i + 1) < l.length - i; omega) (sub_cons rfl (sub_cons rfl (sub_cons rfl (sub_cons rfl (sub_nil _))))) rfl (by repeat (first | exact HSub.refl _ | refine HSub.cons (by repeat (first | exact Take.here _ | apply Take.next | apply Take.app)) ?_ | refine HSub.app (by repeat (first | exact TakeS.here _ | apply TakeS.next | apply TakeS.app)) ?_ | refine HSub.drop ?_ | refine HSub.dropS ?_ | exact HSub.nil _))
  · skip
    refine W_exit rfl ?_
    refine W_sr ?_
    refine W_move rfl rfl ?_
    refine W_assign rfl rfl ?_
    refine W_nil ?_
    refine W_ret1m (H2 := HB ++ H) Try.results16 rfl (.nil _) (by repeat (first | exact HSub.refl _ | refine HSub.cons (by repeat (first | exact Take.here _ | apply Take.next | apply Take.app)) ?_ | refine HSub.app (by repeat (first | exact TakeS.here _ | apply TakeS.next | apply TakeS.app)) ?_ | refine HSub.drop ?_ | refine HSub.dropS ?_ | exact HSub.nil _)) ?_
    obtain rfl : i = l.length := by omega
    rw [List.take_length] at hO
    exact ⟨HB, hO, rfl⟩
end Go.Proofs.Ytkhkagjbeilbgaa
