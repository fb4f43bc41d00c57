/-
  Own work: contracts of functions that the statement reaches, and plain facts on what they compute; each theorem says its conditions.
-/
import Derived.Test.YtkhkagjbeilbgaaDoorS12
set_option linter.all false
set_option linter.unusedSimpArgs false
set_option linter.unusedVariables false
namespace Go.Proofs.YtkhkagjbeilbgaaDoor
open Go Go.Sl
attribute [local irreducible] W
open Go.Script

theorem parseF_len : ∀ (f a : Nat) (b : List Int), (parseF f a b).length ≤ f
  | 0, _, _ => Nat.le_refl _
  | f + 1, a, b => by
    unfold parseF
    split
    · simp
    · split
      · simp
      · simp only
        split
        · simp
        · have := parseF_len f (a + (3 + (numL ((b.drop 1).take 2)).toNat)) (b.drop (3 + (numL ((b.drop 1).take 2)).toNat))
          simp only [List.length_cons]; omega
theorem parse_len (b : List Int) : (parse b).length ≤ b.length := parseF_len _ _ _
theorem erRow_append (l : List Er) (x : Er) : erRow (l ++ [x]) = erRow l ++ x.cells := by simp [erRow]
set_option maxHeartbeats 1000000 in
theorem entries_L {w0 : World} {H : Heap} (v : Value) (hv : v.cells.toList = [v])  : LCalls Tryd.prog w0 91 #[v] (H) (fun v' H' => ∃ bc, v' = .func (.func 113) #[] #[.pointer (some ⟨bc, 0, none⟩)] ∧ H' = (bc, .cells 23 1 [v]) :: H) := by
  refine L_enter (l := [v]) Tryd.func91 rfl Tryd.ntmps91 rfl rfl ?_
  refine W_sr ?_
  refine W_box rfl hv rfl (fun b1 => ?_)
  refine W_assign rfl rfl ?_
  refine W_nil ?_
  refine W_sr ?_
  refine W_makeFunc .nil (.cons rfl .nil) rfl ?_
  refine W_assign rfl rfl ?_
  refine W_nil ?_
  refine W_ret1m (H2 := (b1, .cells 23 1 [v]) :: H) Tryd.results91 rfl (.nil _) (by repeat (first | exact HSub.refl _ | refine HSub.cons (by repeat (first | exact Take.here _ | apply Take.next | apply Take.app)) ?_ | refine HSub.app (by repeat (first | exact TakeS.here _ | apply TakeS.next | apply TakeS.app)) ?_ | refine HSub.drop ?_ | refine HSub.dropS ?_ | exact HSub.nil _)) ?_
  exact ⟨b1, rfl, rfl⟩
set_option maxHeartbeats 4000000 in
theorem parse_L {w0 : World} {H : Heap} {b : List Int} {ad : Option Addr} {cap : Nat} (hb : Go.Script.Bytes b) (hl : b.length ≤ 100000) (hlc : b.length ≤ cap) (hrow : Holds w0 H ad (bytesV b))  : LCalls Tryd.prog w0 57 #[.slice ad b.length cap] (H) (fun v H' => ∃ es HB HX, es.map Er.en = parse b ∧ OwnS 114 9 v es.length (erRow es) HB ∧ (∀ e ∈ es, SrOk w0 HX e.r) ∧ H' = HB ++ (HX ++ H)) := by
  refine L_enter (l := [.slice ad b.length cap]) Tryd.func57 rfl Tryd.ntmps57 rfl rfl ?_
  refine W_sr ?_
  refine W_assign rfl rfl ?_
  refine W_nil ?_
  refine W_sr ?_
  refine W_alloc ty111 rfl rfl (fun b3 => ?_)
  refine W_nil ?_
  refine W_seq ?_
  refine W_sr ?_
  refine W_move rfl rfl ?_
  refine W_call (.cons rfl .nil) Tryd.call91 rfl (entries_L _ rfl) ?_
  rintro v' H' ⟨bc, rfl, rfl⟩
  refine W_nil ?_
  refine W_block ?_
  refine W_rangeFunc rfl Tryd.call113 ?_
  intro lp D r hst hpd hps hasg hbody hA
  have hr := loop_ready hst hpd
  show LCalls _ _ _ #[_, _] _ _
  refine ((entries_iter (l := lp) (bc := bc) (H := (lp, .obj (.loop r)) :: (D, .obj (.deferred (some []))) :: (b3, .cells 111 1 [.slice none 0 0]) :: ([] ++ ([] ++ H))) hb hl hlc
    (fun j Hi => ∃ es v HB HX, es.map Er.en = (parse b).take j ∧ OwnS 114 9 v es.length (erRow es) HB ∧ (∀ e ∈ es, SrOk w0 HX e.r) ∧ Hi = (lp, .obj (.loop r)) :: (D, .obj (.deferred (some []))) :: (b3, .cells 111 1 [v]) :: (HB ++ (HX ++ H))) (fun _ => False)
    (by rintro i Hi ⟨es, v, HB, HX, _, _, _, rfl⟩; exact hrow.up (by repeat (first | exact HSub.refl _ | refine HSub.cons (by repeat (first | exact Take.here _ | apply Take.next | apply Take.app)) ?_ | refine HSub.app (by repeat (first | exact TakeS.here _ | apply TakeS.next | apply TakeS.app)) ?_ | refine HSub.drop ?_ | refine HSub.dropS ?_ | exact HSub.nil _))) ?_ ⟨[], _, [], [], rfl, .nil, (fun e he => by cases he), rfl⟩).hsub (by repeat (first | exact HSub.refl _ | refine HSub.cons (by repeat (first | exact Take.here _ | apply Take.next | apply Take.app)) ?_ | refine HSub.app (by repeat (first | exact TakeS.here _ | apply TakeS.next | apply TakeS.app)) ?_ | refine HSub.drop ?_ | refine HSub.dropS ?_ | exact HSub.nil _))).mono ?_
  · intro j x Hi HR e hx hen hro hJ
    obtain ⟨es, v, HB, HX, hes, hO, hok, rfl⟩ := hJ
    have hlen : es.length ≤ 100000 := by
      have h1 := congrArg List.length hes
      have h2 := parse_len b
      simp only [List.length_map, List.length_take] at h1
      omega
    refine round_intro hst hpd hA hps rfl hasg rfl rfl rfl (by repeat (first | exact Take.here _ | apply Take.next | apply Take.app)) ?_
    refine W_region ?_
    refine W_alloc ty114 rfl rfl (fun b4 => ?_)
    refine W_storeA rfl rfl ty114 rfl rfl (by repeat (first | exact List.mem_cons_self | apply List.mem_cons_of_mem | apply List.mem_append_right)) (Nat.le_of_ble_eq_true rfl) (by simp only [fillL, spliceL, Value.cells, List.take_zero, List.take_succ_cons, List.take_nil, List.drop_zero, List.drop_succ_cons, List.drop_nil, List.nil_append, List.cons_append, List.append_nil, List.length_cons, List.length_nil, Nat.zero_add, Nat.reduceAdd, List.toList_toArray]; rfl) (by repeat (first | exact Upd.head _ | apply Upd.tail | apply Upd.app)) ?_
    refine W_nil ?_
    refine W_begin hst hpd (by repeat (first | exact Take.here _ | apply Take.next | apply Take.app)) hbody ?_
    refine W_block ?_
    refine W_region ?_
    refine W_load rfl ty111 rfl (Cell.own (by repeat (first | exact List.mem_cons_self | apply List.mem_cons_of_mem | apply List.mem_append_right)) rfl) rfl ?_
    refine W_loadB rfl ty114 rfl (by repeat (first | exact List.mem_cons_self | apply List.mem_cons_of_mem | apply List.mem_append_right)) rfl (by simp only [fillL, spliceL, Value.cells, List.take_zero, List.take_succ_cons, List.take_nil, List.drop_zero, List.drop_succ_cons, List.drop_nil, List.nil_append, List.cons_append, List.append_nil, List.length_cons, List.length_nil, Nat.zero_add, Nat.reduceAdd, List.toList_toArray]; rfl) rfl ?_
    refine W_buildSlice ty111 ty114 (.cons rfl rfl rfl rfl rfl .nil) rfl rfl rfl rfl rfl rfl rfl (fun b10 => ?_)
    refine W_append (news := e.cells) (m := 1) (HB := HB) (H0 := HR ++ ((bc, .cells 23 1 [.slice ad b.length cap]) :: (lp, .obj (.loop (Loop.at r .busy none))) :: (D, .obj (.deferred (some []))) :: (b3, .cells 111 1 [v]) :: (HX ++ H))) rfl rfl ty111 ty114 rfl (by decide) hO rfl (Holds.own List.mem_cons_self) rfl (by simp only [maxLen]; omega) (by omega) (by repeat (first | exact HSub.refl _ | refine HSub.cons (by repeat (first | exact Take.here _ | apply Take.next | apply Take.app)) ?_ | refine HSub.app (by repeat (first | exact TakeS.here _ | apply TakeS.next | apply TakeS.app)) ?_ | refine HSub.drop ?_ | refine HSub.dropS ?_ | exact HSub.nil _)) rfl (fun v' HB' hO' => ?_)
    obtain ⟨adv, capv, rfl, _, _⟩ := hO'.shape
    refine W_store rfl rfl ty111 rfl rfl (by repeat (first | exact List.mem_cons_self | apply List.mem_cons_of_mem | apply List.mem_append_right)) rfl rfl (by repeat (first | exact Upd.head _ | apply Upd.tail | apply Upd.app)) ?_
    refine W_nil ?_
    refine W_blk ?_
    refine W_endround (by repeat (first | exact Take.here _ | apply Take.next | apply Take.app)) ?_
    rw [hr]
    exact ⟨_, (by simp only [List.append_assoc]; repeat (first | exact HSub.refl _ | refine HSub.cons (by repeat (first | exact Take.here _ | apply Take.next | apply Take.app)) ?_ | refine HSub.app (by repeat (first | exact TakeS.here _ | apply TakeS.next | apply TakeS.app)) ?_ | refine HSub.drop ?_ | refine HSub.dropS ?_ | exact HSub.nil _)), .inl ⟨rfl, es ++ [e], _, HB', HR ++ HX, by rw [takeAt hx, List.map_append, hes]; simp [hen], by rw [erRow_append, List.length_append]; exact hO',
      (by intro e' he'; rcases List.mem_append.1 he' with h | h; exact (hok e' h).up hsub_right; (simp at h; subst h; exact hro.up hsub_left)), rfl⟩⟩
  · intro _ H' hp
    obtain ⟨Hi', hs, hJS⟩ := hp
    obtain ⟨es, v, HB, HX, hes, hO, hok, rfl⟩ := hJS.resolve_right id
    refine ⟨.ready, none, (D, .obj (.deferred (some []))) :: (b3, .cells 111 1 [v]) :: (HB ++ (HX ++ H)), by rw [hr]; exact hs.trans (by repeat (first | exact HSub.refl _ | refine HSub.cons (by repeat (first | exact Take.here _ | apply Take.next | apply Take.app)) ?_ | refine HSub.app (by repeat (first | exact TakeS.here _ | apply TakeS.next | apply TakeS.app)) ?_ | refine HSub.drop ?_ | refine HSub.dropS ?_ | exact HSub.nil _)), by decide, ?_⟩
    show W _ _ _ _ _ _ _ _ _
    refine W_blk ?_
    refine W_sr ?_
    refine W_load rfl ty111 rfl (Cell.own (by repeat (first | exact List.mem_cons_self | apply List.mem_cons_of_mem | apply List.mem_append_right)) rfl) rfl ?_
    refine W_assign rfl rfl ?_
    refine W_nil ?_
    refine W_ret1m (H2 := HB ++ (HX ++ H)) Tryd.results57 rfl (.cons (by repeat (first | exact Take.here _ | apply Take.next | apply Take.app)) (.nil _)) (by repeat (first | exact HSub.refl _ | refine HSub.cons (by repeat (first | exact Take.here _ | apply Take.next | apply Take.app)) ?_ | refine HSub.app (by repeat (first | exact TakeS.here _ | apply TakeS.next | apply TakeS.app)) ?_ | refine HSub.drop ?_ | refine HSub.dropS ?_ | exact HSub.nil _)) ?_
    exact ⟨es, HB, HX, by rw [hes, List.take_length], hO, hok, rfl⟩

/-- the steps of right entries -/
def stepsOf (l : List Er) : List Sr := l.filterMap fun e => if e.err = 0 then some e.r else none
theorem steps_ok (l : List Er) {x : Er} (h : x.err = 0) : stepsOf (l ++ [x]) = stepsOf l ++ [x.r] := by simp [stepsOf, List.filterMap_append, h]
theorem steps_bad (l : List Er) {x : Er} (h : ¬ x.err = 0) : stepsOf (l ++ [x]) = stepsOf l := by simp [stepsOf, List.filterMap_append, h]
theorem steps_le (l : List Er) : (stepsOf l).length ≤ l.length := List.length_filterMap_le _ _
end Go.Proofs.YtkhkagjbeilbgaaDoor
