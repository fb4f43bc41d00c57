/-
  Own work: contracts of functions that the statement reaches, and plain facts on what they compute; each theorem says its conditions.
-/
import Derived.Test.YtknbohnoiigioaaO7
set_option linter.all false
set_option linter.unusedSimpArgs false
set_option linter.unusedVariables false
namespace Go.Proofs.Ytknbohnoiigioaa
open Go Go.Sl
attribute [local irreducible] W

def fstI (q : List Int) : Value := match q[0]? with
  | some z => (Value.int .i64) z
  | none => (.int .i64 0)
theorem firstI_eq (q : List Int) : firstI q = .tuple #[fstI q, .bool (!q.isEmpty)] := by
  unfold firstI fstI
  cases q <;> rfl
set_option maxHeartbeats 1000000 in
theorem OldestI_L {w0 : World} {H : Heap} {room last c bo bm : Nat} {m : List Int} {l : Ents Int} {τ : Int → Nat} (hO : OrdIs room m last l c τ) (h64 : room ≤ 64)  : LCalls Try.prog w0 21 #[.pointer (some ⟨bo, 0, none⟩)] ((bo, .cells 57 3 [.int .i64 (room : Int), .int .i64 ((last : Nat) : Int), .map (some bm)]) :: (bm, .obj (mapO (Value.int .i64) l c)) :: H) (fun v H' => v = .tuple #[fstI (m), .bool (!(m).isEmpty)] ∧ H' = (bo, .cells 57 3 [.int .i64 (room : Int), .int .i64 ((last : Nat) : Int), .map (some bm)]) :: (bm, .obj (mapO (Value.int .i64) l c)) :: H) := by
  have hml : m.length ≤ 64 := Nat.le_trans hO.le h64
  refine L_enter (l := [.pointer (some ⟨bo, 0, none⟩)]) Try.func21 rfl Try.ntmps21 rfl rfl ?_
  refine W_sr ?_
  refine W_assign rfl rfl ?_
  refine W_assign rfl rfl ?_
  refine W_nil ?_
  refine W_sr ?_
  refine W_move rfl rfl ?_
  refine W_call (.cons rfl (.cons rfl .nil)) Try.call26 rfl ((sortedI_L (H := H) hO false h64).hsub (by repeat (first | with_reducible exact HSub.refl _ | refine HSub.cons (by repeat (first | exact Take.here _ | apply Take.next | apply Take.app)) ?_ | refine HSub.app (by repeat (first | with_reducible exact TakeS.here _ | apply TakeS.next | apply TakeS.app)) ?_ | exact HSub.nil _ | exact HSub.refl _ | refine HSub.drop ?_ | refine HSub.dropS ?_))) ?_
  rintro v H' ⟨bl, sv, HB, rfl, hS, rfl⟩
  simp only [Bool.false_eq_true, if_false] at hS
  obtain ⟨ad, cap, rfl, _, _, hrw⟩ := Holds.of_own (w0 := w0) (H := HB ++ []) hS (fun p hp => List.mem_append_left _ hp)
  refine W_call (.cons rfl .nil) Try.call28 rfl (firstI_L (H := (bo, .cells 57 3 [.int .i64 (room : Int), .int .i64 ((last : Nat) : Int), .map (some bm)]) :: (bm, .obj (mapO (Value.int .i64) l c)) :: H) (HB := HB) (bl := bl) (ad := ad) (q := m) (by (try rw [List.length_reverse]); omega) (hrw.up (.drop (.refl _)))) ?_
  rintro v H' ⟨rfl, rfl⟩
  rw [firstI_eq]
  refine W_extract rfl rfl rfl ?_
  refine W_extract rfl rfl rfl ?_
  refine W_assign rfl rfl ?_
  refine W_assign rfl rfl ?_
  refine W_nil ?_
  refine W_ret2m (H2 := (bo, .cells 57 3 [.int .i64 (room : Int), .int .i64 ((last : Nat) : Int), .map (some bm)]) :: (bm, .obj (mapO (Value.int .i64) l c)) :: H) Try.results21 rfl rfl (.nil _) (by repeat (first | with_reducible exact HSub.refl _ | refine HSub.cons (by repeat (first | exact Take.here _ | apply Take.next | apply Take.app)) ?_ | refine HSub.app (by repeat (first | with_reducible exact TakeS.here _ | apply TakeS.next | apply TakeS.app)) ?_ | exact HSub.nil _ | exact HSub.refl _ | refine HSub.drop ?_ | refine HSub.dropS ?_)) ?_
  exact ⟨rfl, rfl⟩
set_option maxHeartbeats 1000000 in
theorem OldestI_nil  : Pure Try.prog (fun _ => True) 21 [.pointer none] (.tuple #[fstI [], .bool false]) := by
  intro w0 H hT
  refine L_enter Try.func21 rfl Try.ntmps21 rfl rfl ?_
  refine W_sr ?_
  refine W_assign rfl rfl ?_
  refine W_assign rfl rfl ?_
  refine W_nil ?_
  refine W_sr ?_
  refine W_move rfl rfl ?_
  refine W_call (.cons rfl (.cons rfl .nil)) Try.call26 rfl (sortedI_nil false) ?_
  rintro v H' ⟨bl, rfl, rfl⟩
  refine W_call (.cons rfl .nil) Try.call28 rfl ((firstI_L (H := H) (HB := []) (bl := bl) (ad := none) (cap := 0) (q := []) (by decide) Holds.nil).hsub (.refl _)) ?_
  rintro v H' ⟨rfl, rfl⟩
  rw [firstI_eq]
  refine W_extract rfl rfl rfl ?_
  refine W_extract rfl rfl rfl ?_
  refine W_assign rfl rfl ?_
  refine W_assign rfl rfl ?_
  refine W_nil ?_
  refine W_ret2m (H2 := H) Try.results21 rfl rfl (.nil _) (by repeat (first | with_reducible exact HSub.refl _ | refine HSub.cons (by repeat (first | exact Take.here _ | apply Take.next | apply Take.app)) ?_ | refine HSub.app (by repeat (first | with_reducible exact TakeS.here _ | apply TakeS.next | apply TakeS.app)) ?_ | exact HSub.nil _ | exact HSub.refl _ | refine HSub.drop ?_ | refine HSub.dropS ?_)) ?_
  exact ⟨rfl, rfl⟩
set_option maxHeartbeats 1000000 in
theorem NewestI_L {w0 : World} {H : Heap} {room last c bo bm : Nat} {m : List Int} {l : Ents Int} {τ : Int → Nat} (hO : OrdIs room m last l c τ) (h64 : room ≤ 64)  : LCalls Try.prog w0 22 #[.pointer (some ⟨bo, 0, none⟩)] ((bo, .cells 57 3 [.int .i64 (room : Int), .int .i64 ((last : Nat) : Int), .map (some bm)]) :: (bm, .obj (mapO (Value.int .i64) l c)) :: H) (fun v H' => v = .tuple #[fstI (m.reverse), .bool (!(m.reverse).isEmpty)] ∧ H' = (bo, .cells 57 3 [.int .i64 (room : Int), .int .i64 ((last : Nat) : Int), .map (some bm)]) :: (bm, .obj (mapO (Value.int .i64) l c)) :: H) := by
  have hml : m.length ≤ 64 := Nat.le_trans hO.le h64
  refine L_enter (l := [.pointer (some ⟨bo, 0, none⟩)]) Try.func22 rfl Try.ntmps22 rfl rfl ?_
  refine W_sr ?_
  refine W_assign rfl rfl ?_
  refine W_assign rfl rfl ?_
  refine W_nil ?_
  refine W_sr ?_
  refine W_move rfl rfl ?_
  refine W_call (.cons rfl (.cons rfl .nil)) Try.call26 rfl ((sortedI_L (H := H) hO true h64).hsub (by repeat (first | with_reducible exact HSub.refl _ | refine HSub.cons (by repeat (first | exact Take.here _ | apply Take.next | apply Take.app)) ?_ | refine HSub.app (by repeat (first | with_reducible exact TakeS.here _ | apply TakeS.next | apply TakeS.app)) ?_ | exact HSub.nil _ | exact HSub.refl _ | refine HSub.drop ?_ | refine HSub.dropS ?_))) ?_
  rintro v H' ⟨bl, sv, HB, rfl, hS, rfl⟩
  simp only [if_true] at hS
  obtain ⟨ad, cap, rfl, _, _, hrw⟩ := Holds.of_own (w0 := w0) (H := HB ++ []) hS (fun p hp => List.mem_append_left _ hp)
  refine W_call (.cons rfl .nil) Try.call28 rfl (firstI_L (H := (bo, .cells 57 3 [.int .i64 (room : Int), .int .i64 ((last : Nat) : Int), .map (some bm)]) :: (bm, .obj (mapO (Value.int .i64) l c)) :: H) (HB := HB) (bl := bl) (ad := ad) (q := m.reverse) (by (try rw [List.length_reverse]); omega) (hrw.up (.drop (.refl _)))) ?_
  rintro v H' ⟨rfl, rfl⟩
  rw [firstI_eq]
  refine W_extract rfl rfl rfl ?_
  refine W_extract rfl rfl rfl ?_
  refine W_assign rfl rfl ?_
  refine W_assign rfl rfl ?_
  refine W_nil ?_
  refine W_ret2m (H2 := (bo, .cells 57 3 [.int .i64 (room : Int), .int .i64 ((last : Nat) : Int), .map (some bm)]) :: (bm, .obj (mapO (Value.int .i64) l c)) :: H) Try.results22 rfl rfl (.nil _) (by repeat (first | with_reducible exact HSub.refl _ | refine HSub.cons (by repeat (first | exact Take.here _ | apply Take.next | apply Take.app)) ?_ | refine HSub.app (by repeat (first | with_reducible exact TakeS.here _ | apply TakeS.next | apply TakeS.app)) ?_ | exact HSub.nil _ | exact HSub.refl _ | refine HSub.drop ?_ | refine HSub.dropS ?_)) ?_
  exact ⟨rfl, rfl⟩
set_option maxHeartbeats 1000000 in
theorem NewestI_nil  : Pure Try.prog (fun _ => True) 22 [.pointer none] (.tuple #[fstI [], .bool false]) := by
  intro w0 H hT
  refine L_enter Try.func22 rfl Try.ntmps22 rfl rfl ?_
  refine W_sr ?_
  refine W_assign rfl rfl ?_
  refine W_assign rfl rfl ?_
  refine W_nil ?_
  refine W_sr ?_
  refine W_move rfl rfl ?_
  refine W_call (.cons rfl (.cons rfl .nil)) Try.call26 rfl (sortedI_nil true) ?_
  rintro v H' ⟨bl, rfl, rfl⟩
  refine W_call (.cons rfl .nil) Try.call28 rfl ((firstI_L (H := H) (HB := []) (bl := bl) (ad := none) (cap := 0) (q := []) (by decide) Holds.nil).hsub (.refl _)) ?_
  rintro v H' ⟨rfl, rfl⟩
  rw [firstI_eq]
  refine W_extract rfl rfl rfl ?_
  refine W_extract rfl rfl rfl ?_
  refine W_assign rfl rfl ?_
  refine W_assign rfl rfl ?_
  refine W_nil ?_
  refine W_ret2m (H2 := H) Try.results22 rfl rfl (.nil _) (by repeat (first | with_reducible exact HSub.refl _ | refine HSub.cons (by repeat (first | exact Take.here _ | apply Take.next | apply Take.app)) ?_ | refine HSub.app (by repeat (first | with_reducible exact TakeS.here _ | apply TakeS.next | apply TakeS.app)) ?_ | exact HSub.nil _ | exact HSub.refl _ | refine HSub.drop ?_ | refine HSub.dropS ?_)) ?_
  exact ⟨rfl, rfl⟩
set_option maxHeartbeats 1000000 in
theorem ListI_L {w0 : World} {H : Heap} {room last c bo bm : Nat} {m : List Int} {l : Ents Int} {τ : Int → Nat} (hO : OrdIs room m last l c τ) (h64 : room ≤ 64)  : LCalls Try.prog w0 12 #[.pointer (some ⟨bo, 0, none⟩)] ((bo, .cells 57 3 [.int .i64 (room : Int), .int .i64 ((last : Nat) : Int), .map (some bm)]) :: (bm, .obj (mapO (Value.int .i64) l c)) :: H) (fun v H' => ∃ sv XB, v = sv ∧ OwnS 3 1 sv (m).length ((m).map (Value.int .i64)) XB ∧ H' = XB ++ ((bo, .cells 57 3 [.int .i64 (room : Int), .int .i64 ((last : Nat) : Int), .map (some bm)]) :: (bm, .obj (mapO (Value.int .i64) l c)) :: H)) := by
  have hml : m.length ≤ 64 := Nat.le_trans hO.le h64
  refine L_enter (l := [.pointer (some ⟨bo, 0, none⟩)]) Try.func12 rfl Try.ntmps12 rfl rfl ?_
  refine W_sr ?_
  refine W_assign rfl rfl ?_
  refine W_nil ?_
  refine W_sr ?_
  refine W_alloc (l := [.slice none 0 0]) ty22 rfl rfl (fun b3 => ?_)
  refine W_nil ?_
  refine W_seq ?_
  refine W_sr ?_
  refine W_move rfl rfl ?_
  refine W_call (.cons rfl (.cons rfl .nil)) Try.call26 rfl ((sortedI_L (H := (b3, .cells 22 1 [.slice none 0 0]) :: H) hO false h64).hsub (by repeat (first | with_reducible exact HSub.refl _ | refine HSub.cons (by repeat (first | exact Take.here _ | apply Take.next | apply Take.app)) ?_ | refine HSub.app (by repeat (first | with_reducible exact TakeS.here _ | apply TakeS.next | apply TakeS.app)) ?_ | exact HSub.nil _ | exact HSub.refl _ | refine HSub.drop ?_ | refine HSub.dropS ?_))) ?_
  rintro v H' ⟨bl, sv, HB, rfl, hS, rfl⟩
  simp only [Bool.false_eq_true, if_false] at hS
  obtain ⟨ad, cap, rfl, _, _, hrw⟩ := Holds.of_own (w0 := w0) (H := HB ++ []) hS (fun p hp => List.mem_append_left _ hp)
  refine W_nil ?_
  refine W_block ?_
  refine W_rangeFunc rfl Try.call33 ?_
  intro lp D r hst hpd hps hasg hbody hA
  have hr := loop_ready hst hpd
  show LCalls _ _ _ #[_, _] _ _
  refine ((seqI_iter (HB := HB) (bl := bl) (ad := ad) (cap := cap) (q := m) (H := (lp, .obj (.loop r)) :: (D, .obj (.deferred (some []))) :: (b3, .cells 22 1 [.slice none 0 0]) :: ((bo, .cells 57 3 [.int .i64 (room : Int), .int .i64 ((last : Nat) : Int), .map (some bm)]) :: (bm, .obj (mapO (Value.int .i64) l c)) :: H)) (fun i Hi => ∃ xv XB, OwnS 3 1 xv i (((m).take i).map (Value.int .i64)) XB ∧ Hi = (lp, .obj (.loop r)) :: (D, .obj (.deferred (some []))) :: (b3, .cells 22 1 [xv]) :: (XB ++ ((bo, .cells 57 3 [.int .i64 (room : Int), .int .i64 ((last : Nat) : Int), .map (some bm)]) :: (bm, .obj (mapO (Value.int .i64) l c)) :: H))) (fun _ => False) (by omega) (hrw.up (.drop (.refl _))) ?_ ⟨_, [], .nil, rfl⟩).hsub (by repeat (first | with_reducible exact HSub.refl _ | refine HSub.cons (by repeat (first | exact Take.here _ | apply Take.next | apply Take.app)) ?_ | refine HSub.app (by repeat (first | with_reducible exact TakeS.here _ | apply TakeS.next | apply TakeS.app)) ?_ | exact HSub.nil _ | exact HSub.refl _ | refine HSub.drop ?_ | refine HSub.dropS ?_))).mono ?_
  · intro i z Hi hz hJ
    obtain ⟨xv, XB, hX, rfl⟩ := hJ
    have hil := (List.getElem?_eq_some_iff.1 hz).1
    refine round_intro hst hpd hA hps rfl hasg rfl rfl rfl (by repeat (first | exact Take.here _ | apply Take.next | apply Take.app)) ?_
    refine W_region ?_
    refine W_assign rfl rfl ?_
    refine W_nil ?_
    refine W_begin hst hpd (by repeat (first | exact Take.here _ | apply Take.next | apply Take.app)) hbody ?_
    refine W_block ?_
    refine W_region ?_
    refine W_load (v := xv) rfl ty22 rfl (Cell.own (b := b3) (by repeat (first | exact List.mem_cons_self | apply List.mem_cons_of_mem | apply List.mem_append_right)) rfl) rfl ?_
    refine W_move rfl rfl ?_
    refine W_buildSlice (l := [(Value.int .i64) z]) ty22 ty3 (.cons rfl rfl rfl rfl rfl .nil) rfl rfl rfl rfl rfl rfl rfl (fun b10 => ?_)
    refine W_append (news := [(Value.int .i64) z]) (m := 1) (HB := XB) (H0 := (bl, .cells 22 1 [.slice ad (m).length cap]) :: (HB ++ ((lp, .obj (.loop (Loop.at r .busy none))) :: (D, .obj (.deferred (some []))) :: (b3, .cells 22 1 [xv]) :: ((bo, .cells 57 3 [.int .i64 (room : Int), .int .i64 ((last : Nat) : Int), .map (some bm)]) :: (bm, .obj (mapO (Value.int .i64) l c)) :: H)))) rfl rfl ty22 ty3 rfl (by decide) hX rfl (Holds.own List.mem_cons_self) rfl (by simp only [maxLen]; omega) (by omega) (by repeat (first | with_reducible exact HSub.refl _ | refine HSub.cons (by repeat (first | exact Take.here _ | apply Take.next | apply Take.app)) ?_ | refine HSub.app (by repeat (first | with_reducible exact TakeS.here _ | apply TakeS.next | apply TakeS.app)) ?_ | exact HSub.nil _ | exact HSub.refl _ | refine HSub.drop ?_ | refine HSub.dropS ?_)) rfl (fun v' HB' hO' => ?_)
    refine W_store (l' := [v']) rfl rfl ty22 (by obtain ⟨a0, c0', e0, _⟩ := hO'.shape; rw [e0]; rfl) rfl (b := b3) (by repeat (first | exact List.mem_cons_self | apply List.mem_cons_of_mem | apply List.mem_append_right)) rfl rfl (by repeat (first | exact Upd.head _ | apply Upd.tail | apply Upd.app)) ?_
    refine W_nil ?_
    refine W_blk ?_
    refine W_endround (by repeat (first | exact Take.here _ | apply Take.next | apply Take.app)) ?_
    rw [hr]
    exact ⟨(lp, .obj (.loop r)) :: (D, .obj (.deferred (some []))) :: (b3, .cells 22 1 [v']) :: (HB' ++ ((bo, .cells 57 3 [.int .i64 (room : Int), .int .i64 ((last : Nat) : Int), .map (some bm)]) :: (bm, .obj (mapO (Value.int .i64) l c)) :: H)), (by repeat (first | with_reducible exact HSub.refl _ | refine HSub.cons (by repeat (first | exact Take.here _ | apply Take.next | apply Take.app)) ?_ | refine HSub.app (by repeat (first | with_reducible exact TakeS.here _ | apply TakeS.next | apply TakeS.app)) ?_ | exact HSub.nil _ | exact HSub.refl _ | refine HSub.drop ?_ | refine HSub.dropS ?_)), .inl ⟨rfl, v', HB', by rw [List.take_add_one, hz, List.map_append]; exact hO', rfl⟩⟩
  · intro _ H' hp
    obtain ⟨Hi', hs, hJS⟩ := hp
    obtain ⟨xv, XB, hX, rfl⟩ := hJS.resolve_right id
    rw [List.take_length] at hX
    refine ⟨.ready, none, (bl, .cells 22 1 [.slice ad (m).length cap]) :: (HB ++ ((D, .obj (.deferred (some []))) :: (b3, .cells 22 1 [xv]) :: (XB ++ ((bo, .cells 57 3 [.int .i64 (room : Int), .int .i64 ((last : Nat) : Int), .map (some bm)]) :: (bm, .obj (mapO (Value.int .i64) l c)) :: H)))), by rw [hr]; exact hs.trans (by repeat (first | with_reducible exact HSub.refl _ | refine HSub.cons (by repeat (first | exact Take.here _ | apply Take.next | apply Take.app)) ?_ | refine HSub.app (by repeat (first | with_reducible exact TakeS.here _ | apply TakeS.next | apply TakeS.app)) ?_ | exact HSub.nil _ | exact HSub.refl _ | refine HSub.drop ?_ | refine HSub.dropS ?_)), by decide, ?_⟩
    show W _ _ _ _ _ _ _ _ _
    refine W_blk ?_
    refine W_sr ?_
    refine W_load (v := xv) rfl ty22 rfl (Cell.own (b := b3) (by repeat (first | exact List.mem_cons_self | apply List.mem_cons_of_mem | apply List.mem_append_right)) rfl) rfl ?_
    refine W_assign rfl rfl ?_
    refine W_nil ?_
    refine W_ret1m (H2 := XB ++ ((bo, .cells 57 3 [.int .i64 (room : Int), .int .i64 ((last : Nat) : Int), .map (some bm)]) :: (bm, .obj (mapO (Value.int .i64) l c)) :: H)) Try.results12 rfl (.cons (by repeat (first | exact Take.here _ | apply Take.next | apply Take.app)) (.nil _)) (by repeat (first | with_reducible exact HSub.refl _ | refine HSub.cons (by repeat (first | exact Take.here _ | apply Take.next | apply Take.app)) ?_ | refine HSub.app (by repeat (first | with_reducible exact TakeS.here _ | apply TakeS.next | apply TakeS.app)) ?_ | exact HSub.nil _ | exact HSub.refl _ | refine HSub.drop ?_ | refine HSub.dropS ?_)) ?_
    exact ⟨xv, XB, rfl, hX, rfl⟩
set_option maxHeartbeats 1000000 in
theorem ListI_nil {w0 : World} {H : Heap}   : LCalls Try.prog w0 12 #[.pointer none] (H) (fun v H' => ∃ sv XB, v = sv ∧ OwnS 3 1 sv 0 [] XB ∧ H' = XB ++ H) := by
  have hl0 : ([] : List Int).length = 0 := rfl
  refine L_enter (l := [.pointer none]) Try.func12 rfl Try.ntmps12 rfl rfl ?_
  refine W_sr ?_
  refine W_assign rfl rfl ?_
  refine W_nil ?_
  refine W_sr ?_
  refine W_alloc (l := [.slice none 0 0]) ty22 rfl rfl (fun b3 => ?_)
  refine W_nil ?_
  refine W_seq ?_
  refine W_sr ?_
  refine W_move rfl rfl ?_
  refine W_call (.cons rfl (.cons rfl .nil)) Try.call26 rfl (sortedI_nil false) ?_
  rintro v H' ⟨bl, rfl, rfl⟩
  refine W_nil ?_
  refine W_block ?_
  refine W_rangeFunc rfl Try.call33 ?_
  intro lp D r hst hpd hps hasg hbody hA
  have hr := loop_ready hst hpd
  show LCalls _ _ _ #[_, _] _ _
  refine ((seqI_iter (HB := []) (bl := bl) (ad := none) (cap := 0) (q := ([] : List Int)) (H := (lp, .obj (.loop r)) :: (D, .obj (.deferred (some []))) :: (b3, .cells 22 1 [.slice none 0 0]) :: (H)) (fun i Hi => ∃ xv XB, OwnS 3 1 xv i (((([] : List Int)).take i).map (Value.int .i64)) XB ∧ Hi = (lp, .obj (.loop r)) :: (D, .obj (.deferred (some []))) :: (b3, .cells 22 1 [xv]) :: (XB ++ (H))) (fun _ => False) (by decide) Holds.nil ?_ ⟨_, [], .nil, rfl⟩).hsub (by repeat (first | with_reducible exact HSub.refl _ | refine HSub.cons (by repeat (first | exact Take.here _ | apply Take.next | apply Take.app)) ?_ | refine HSub.app (by repeat (first | with_reducible exact TakeS.here _ | apply TakeS.next | apply TakeS.app)) ?_ | exact HSub.nil _ | exact HSub.refl _ | refine HSub.drop ?_ | refine HSub.dropS ?_))).mono ?_
  · intro i z Hi hz hJ
    obtain ⟨xv, XB, hX, rfl⟩ := hJ
    have hil := (List.getElem?_eq_some_iff.1 hz).1
    refine round_intro hst hpd hA hps rfl hasg rfl rfl rfl (by repeat (first | exact Take.here _ | apply Take.next | apply Take.app)) ?_
    refine W_region ?_
    refine W_assign rfl rfl ?_
    refine W_nil ?_
    refine W_begin hst hpd (by repeat (first | exact Take.here _ | apply Take.next | apply Take.app)) hbody ?_
    refine W_block ?_
    refine W_region ?_
    refine W_load (v := xv) rfl ty22 rfl (Cell.own (b := b3) (by repeat (first | exact List.mem_cons_self | apply List.mem_cons_of_mem | apply List.mem_append_right)) rfl) rfl ?_
    refine W_move rfl rfl ?_
    refine W_buildSlice (l := [(Value.int .i64) z]) ty22 ty3 (.cons rfl rfl rfl rfl rfl .nil) rfl rfl rfl rfl rfl rfl rfl (fun b10 => ?_)
    refine W_append (news := [(Value.int .i64) z]) (m := 1) (HB := XB) (H0 := (bl, .cells 22 1 [.slice none (([] : List Int)).length 0]) :: ([] ++ ((lp, .obj (.loop (Loop.at r .busy none))) :: (D, .obj (.deferred (some []))) :: (b3, .cells 22 1 [xv]) :: (H)))) rfl rfl ty22 ty3 rfl (by decide) hX rfl (Holds.own List.mem_cons_self) rfl (by simp only [maxLen]; omega) (by omega) (by repeat (first | with_reducible exact HSub.refl _ | refine HSub.cons (by repeat (first | exact Take.here _ | apply Take.next | apply Take.app)) ?_ | refine HSub.app (by repeat (first | with_reducible exact TakeS.here _ | apply TakeS.next | apply TakeS.app)) ?_ | exact HSub.nil _ | exact HSub.refl _ | refine HSub.drop ?_ | refine HSub.dropS ?_)) rfl (fun v' HB' hO' => ?_)
    refine W_store (l' := [v']) rfl rfl ty22 (by obtain ⟨a0, c0', e0, _⟩ := hO'.shape; rw [e0]; rfl) rfl (b := b3) (by repeat (first | exact List.mem_cons_self | apply List.mem_cons_of_mem | apply List.mem_append_right)) rfl rfl (by repeat (first | exact Upd.head _ | apply Upd.tail | apply Upd.app)) ?_
    refine W_nil ?_
    refine W_blk ?_
    refine W_endround (by repeat (first | exact Take.here _ | apply Take.next | apply Take.app)) ?_
    rw [hr]
    exact ⟨(lp, .obj (.loop r)) :: (D, .obj (.deferred (some []))) :: (b3, .cells 22 1 [v']) :: (HB' ++ (H)), (by repeat (first | with_reducible exact HSub.refl _ | refine HSub.cons (by repeat (first | exact Take.here _ | apply Take.next | apply Take.app)) ?_ | refine HSub.app (by repeat (first | with_reducible exact TakeS.here _ | apply TakeS.next | apply TakeS.app)) ?_ | exact HSub.nil _ | exact HSub.refl _ | refine HSub.drop ?_ | refine HSub.dropS ?_)), .inl ⟨rfl, v', HB', by rw [List.take_add_one, hz, List.map_append]; exact hO', rfl⟩⟩
  · intro _ H' hp
    obtain ⟨Hi', hs, hJS⟩ := hp
    obtain ⟨xv, XB, hX, rfl⟩ := hJS.resolve_right id
    rw [List.take_length] at hX
    refine ⟨.ready, none, (bl, .cells 22 1 [.slice none (([] : List Int)).length 0]) :: ([] ++ ((D, .obj (.deferred (some []))) :: (b3, .cells 22 1 [xv]) :: (XB ++ (H)))), by rw [hr]; exact hs.trans (by repeat (first | with_reducible exact HSub.refl _ | refine HSub.cons (by repeat (first | exact Take.here _ | apply Take.next | apply Take.app)) ?_ | refine HSub.app (by repeat (first | with_reducible exact TakeS.here _ | apply TakeS.next | apply TakeS.app)) ?_ | exact HSub.nil _ | exact HSub.refl _ | refine HSub.drop ?_ | refine HSub.dropS ?_)), by decide, ?_⟩
    show W _ _ _ _ _ _ _ _ _
    refine W_blk ?_
    refine W_sr ?_
    refine W_load (v := xv) rfl ty22 rfl (Cell.own (b := b3) (by repeat (first | exact List.mem_cons_self | apply List.mem_cons_of_mem | apply List.mem_append_right)) rfl) rfl ?_
    refine W_assign rfl rfl ?_
    refine W_nil ?_
    refine W_ret1m (H2 := XB ++ (H)) Try.results12 rfl (.cons (by repeat (first | exact Take.here _ | apply Take.next | apply Take.app)) (.nil _)) (by repeat (first | with_reducible exact HSub.refl _ | refine HSub.cons (by repeat (first | exact Take.here _ | apply Take.next | apply Take.app)) ?_ | refine HSub.app (by repeat (first | with_reducible exact TakeS.here _ | apply TakeS.next | apply TakeS.app)) ?_ | exact HSub.nil _ | exact HSub.refl _ | refine HSub.drop ?_ | refine HSub.dropS ?_)) ?_
    exact ⟨xv, XB, rfl, hX, rfl⟩
set_option maxHeartbeats 1000000 in
theorem ListS_L {w0 : World} {H : Heap} {room last c bo bm : Nat} {m : List ByteArray} {l : Ents ByteArray} {τ : ByteArray → Nat} (hO : OrdIs room m last l c τ) (h64 : room ≤ 64)  : LCalls Try.prog w0 16 #[.pointer (some ⟨bo, 0, none⟩)] ((bo, .cells 63 3 [.int .i64 (room : Int), .int .i64 ((last : Nat) : Int), .map (some bm)]) :: (bm, .obj (mapO Value.string l c)) :: H) (fun v H' => ∃ sv XB, v = sv ∧ OwnS 9 1 sv (m).length ((m).map Value.string) XB ∧ H' = XB ++ ((bo, .cells 63 3 [.int .i64 (room : Int), .int .i64 ((last : Nat) : Int), .map (some bm)]) :: (bm, .obj (mapO Value.string l c)) :: H)) := by
  have hml : m.length ≤ 64 := Nat.le_trans hO.le h64
  refine L_enter (l := [.pointer (some ⟨bo, 0, none⟩)]) Try.func16 rfl Try.ntmps16 rfl rfl ?_
  refine W_sr ?_
  refine W_assign rfl rfl ?_
  refine W_nil ?_
  refine W_sr ?_
  refine W_alloc (l := [.slice none 0 0]) ty35 rfl rfl (fun b3 => ?_)
  refine W_nil ?_
  refine W_seq ?_
  refine W_sr ?_
  refine W_move rfl rfl ?_
  refine W_call (.cons rfl (.cons rfl .nil)) Try.call27 rfl ((sortedS_L (H := (b3, .cells 35 1 [.slice none 0 0]) :: H) hO false h64).hsub (by repeat (first | with_reducible exact HSub.refl _ | refine HSub.cons (by repeat (first | exact Take.here _ | apply Take.next | apply Take.app)) ?_ | refine HSub.app (by repeat (first | with_reducible exact TakeS.here _ | apply TakeS.next | apply TakeS.app)) ?_ | exact HSub.nil _ | exact HSub.refl _ | refine HSub.drop ?_ | refine HSub.dropS ?_))) ?_
  rintro v H' ⟨bl, sv, HB, rfl, hS, rfl⟩
  simp only [Bool.false_eq_true, if_false] at hS
  obtain ⟨ad, cap, rfl, _, _, hrw⟩ := Holds.of_own (w0 := w0) (H := HB ++ []) hS (fun p hp => List.mem_append_left _ hp)
  refine W_nil ?_
  refine W_block ?_
  refine W_rangeFunc rfl Try.call37 ?_
  intro lp D r hst hpd hps hasg hbody hA
  have hr := loop_ready hst hpd
  show LCalls _ _ _ #[_, _] _ _
  refine ((seqS_iter (HB := HB) (bl := bl) (ad := ad) (cap := cap) (q := m) (H := (lp, .obj (.loop r)) :: (D, .obj (.deferred (some []))) :: (b3, .cells 35 1 [.slice none 0 0]) :: ((bo, .cells 63 3 [.int .i64 (room : Int), .int .i64 ((last : Nat) : Int), .map (some bm)]) :: (bm, .obj (mapO Value.string l c)) :: H)) (fun i Hi => ∃ xv XB, OwnS 9 1 xv i (((m).take i).map Value.string) XB ∧ Hi = (lp, .obj (.loop r)) :: (D, .obj (.deferred (some []))) :: (b3, .cells 35 1 [xv]) :: (XB ++ ((bo, .cells 63 3 [.int .i64 (room : Int), .int .i64 ((last : Nat) : Int), .map (some bm)]) :: (bm, .obj (mapO Value.string l c)) :: H))) (fun _ => False) (by omega) (hrw.up (.drop (.refl _))) ?_ ⟨_, [], .nil, rfl⟩).hsub (by repeat (first | with_reducible exact HSub.refl _ | refine HSub.cons (by repeat (first | exact Take.here _ | apply Take.next | apply Take.app)) ?_ | refine HSub.app (by repeat (first | with_reducible exact TakeS.here _ | apply TakeS.next | apply TakeS.app)) ?_ | exact HSub.nil _ | exact HSub.refl _ | refine HSub.drop ?_ | refine HSub.dropS ?_))).mono ?_
  · intro i z Hi hz hJ
    obtain ⟨xv, XB, hX, rfl⟩ := hJ
    have hil := (List.getElem?_eq_some_iff.1 hz).1
    refine round_intro hst hpd hA hps rfl hasg rfl rfl rfl (by repeat (first | exact Take.here _ | apply Take.next | apply Take.app)) ?_
    refine W_region ?_
    refine W_assign rfl rfl ?_
    refine W_nil ?_
    refine W_begin hst hpd (by repeat (first | exact Take.here _ | apply Take.next | apply Take.app)) hbody ?_
    refine W_block ?_
    refine W_region ?_
    refine W_load (v := xv) rfl ty35 rfl (Cell.own (b := b3) (by repeat (first | exact List.mem_cons_self | apply List.mem_cons_of_mem | apply List.mem_append_right)) rfl) rfl ?_
    refine W_move rfl rfl ?_
    refine W_buildSlice (l := [Value.string z]) ty35 ty9 (.cons rfl rfl rfl rfl rfl .nil) rfl rfl rfl rfl rfl rfl rfl (fun b10 => ?_)
    refine W_append (news := [Value.string z]) (m := 1) (HB := XB) (H0 := (bl, .cells 35 1 [.slice ad (m).length cap]) :: (HB ++ ((lp, .obj (.loop (Loop.at r .busy none))) :: (D, .obj (.deferred (some []))) :: (b3, .cells 35 1 [xv]) :: ((bo, .cells 63 3 [.int .i64 (room : Int), .int .i64 ((last : Nat) : Int), .map (some bm)]) :: (bm, .obj (mapO Value.string l c)) :: H)))) rfl rfl ty35 ty9 rfl (by decide) hX rfl (Holds.own List.mem_cons_self) rfl (by simp only [maxLen]; omega) (by omega) (by repeat (first | with_reducible exact HSub.refl _ | refine HSub.cons (by repeat (first | exact Take.here _ | apply Take.next | apply Take.app)) ?_ | refine HSub.app (by repeat (first | with_reducible exact TakeS.here _ | apply TakeS.next | apply TakeS.app)) ?_ | exact HSub.nil _ | exact HSub.refl _ | refine HSub.drop ?_ | refine HSub.dropS ?_)) rfl (fun v' HB' hO' => ?_)
    refine W_store (l' := [v']) rfl rfl ty35 (by obtain ⟨a0, c0', e0, _⟩ := hO'.shape; rw [e0]; rfl) rfl (b := b3) (by repeat (first | exact List.mem_cons_self | apply List.mem_cons_of_mem | apply List.mem_append_right)) rfl rfl (by repeat (first | exact Upd.head _ | apply Upd.tail | apply Upd.app)) ?_
    refine W_nil ?_
    refine W_blk ?_
    refine W_endround (by repeat (first | exact Take.here _ | apply Take.next | apply Take.app)) ?_
    rw [hr]
    exact ⟨(lp, .obj (.loop r)) :: (D, .obj (.deferred (some []))) :: (b3, .cells 35 1 [v']) :: (HB' ++ ((bo, .cells 63 3 [.int .i64 (room : Int), .int .i64 ((last : Nat) : Int), .map (some bm)]) :: (bm, .obj (mapO Value.string l c)) :: H)), (by repeat (first | with_reducible exact HSub.refl _ | refine HSub.cons (by repeat (first | exact Take.here _ | apply Take.next | apply Take.app)) ?_ | refine HSub.app (by repeat (first | with_reducible exact TakeS.here _ | apply TakeS.next | apply TakeS.app)) ?_ | exact HSub.nil _ | exact HSub.refl _ | refine HSub.drop ?_ | refine HSub.dropS ?_)), .inl ⟨rfl, v', HB', by rw [List.take_add_one, hz, List.map_append]; exact hO', rfl⟩⟩
  · intro _ H' hp
    obtain ⟨Hi', hs, hJS⟩ := hp
    obtain ⟨xv, XB, hX, rfl⟩ := hJS.resolve_right id
    rw [List.take_length] at hX
    refine ⟨.ready, none, (bl, .cells 35 1 [.slice ad (m).length cap]) :: (HB ++ ((D, .obj (.deferred (some []))) :: (b3, .cells 35 1 [xv]) :: (XB ++ ((bo, .cells 63 3 [.int .i64 (room : Int), .int .i64 ((last : Nat) : Int), .map (some bm)]) :: (bm, .obj (mapO Value.string l c)) :: H)))), by rw [hr]; exact hs.trans (by repeat (first | with_reducible exact HSub.refl _ | refine HSub.cons (by repeat (first | exact Take.here _ | apply Take.next | apply Take.app)) ?_ | refine HSub.app (by repeat (first | with_reducible exact TakeS.here _ | apply TakeS.next | apply TakeS.app)) ?_ | exact HSub.nil _ | exact HSub.refl _ | refine HSub.drop ?_ | refine HSub.dropS ?_)), by decide, ?_⟩
    show W _ _ _ _ _ _ _ _ _
    refine W_blk ?_
    refine W_sr ?_
    refine W_load (v := xv) rfl ty35 rfl (Cell.own (b := b3) (by repeat (first | exact List.mem_cons_self | apply List.mem_cons_of_mem | apply List.mem_append_right)) rfl) rfl ?_
    refine W_assign rfl rfl ?_
    refine W_nil ?_
    refine W_ret1m (H2 := XB ++ ((bo, .cells 63 3 [.int .i64 (room : Int), .int .i64 ((last : Nat) : Int), .map (some bm)]) :: (bm, .obj (mapO Value.string l c)) :: H)) Try.results16 rfl (.cons (by repeat (first | exact Take.here _ | apply Take.next | apply Take.app)) (.nil _)) (by repeat (first | with_reducible exact HSub.refl _ | refine HSub.cons (by repeat (first | exact Take.here _ | apply Take.next | apply Take.app)) ?_ | refine HSub.app (by repeat (first | with_reducible exact TakeS.here _ | apply TakeS.next | apply TakeS.app)) ?_ | exact HSub.nil _ | exact HSub.refl _ | refine HSub.drop ?_ | refine HSub.dropS ?_)) ?_
    exact ⟨xv, XB, rfl, hX, rfl⟩
end Go.Proofs.Ytknbohnoiigioaa
