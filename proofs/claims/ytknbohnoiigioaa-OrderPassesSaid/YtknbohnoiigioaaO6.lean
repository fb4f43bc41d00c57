/-
  Own work: contracts of functions that the statement reaches, and plain facts on what they compute; each theorem says its conditions.
-/
import Derived.Test.YtknbohnoiigioaaO5
set_option linter.all false
set_option linter.unusedSimpArgs false
set_option linter.unusedVariables false
namespace Go.Proofs.Ytknbohnoiigioaa
open Go Go.Sl
attribute [local irreducible] W

theorem own_or {e : TypeId} {s : Nat} {v : Value} {n : Nat} {xs : List Value} {HB : Heap} (h : OwnS e s v n xs HB) : (v = .slice none 0 0 ∧ n = 0 ∧ xs = [] ∧ HB = []) ∨ ∃ b cap, v = .slice (some ⟨b, 0, none⟩) n cap ∧ HB = [(b, .cells e (cap * s) xs)] ∧ n ≤ cap ∧ cap ≤ maxLen := by
  cases h with
  | nil => exact .inl ⟨rfl, rfl, rfl, rfl⟩
  | own h1 h2 h3 => exact .inr ⟨_, _, rfl, rfl, h2, h3⟩
set_option maxHeartbeats 1000000 in
theorem sortedI_L {w0 : World} {H : Heap} {room last c bo bm : Nat} {m : List Int} {l : Ents Int} {τ : Int → Nat} (hO : OrdIs room m last l c τ) (bk : Bool) (h64 : room ≤ 64)  : LCalls Try.prog w0 26 #[.pointer (some ⟨bo, 0, none⟩), .bool bk] ((bo, .cells 57 3 [.int .i64 (room : Int), .int .i64 ((last : Nat) : Int), .map (some bm)]) :: (bm, .obj (mapO (Value.int .i64) l c)) :: H) (fun v H' => ∃ bl sv HB, v = .func (.func 33) #[] #[.pointer (some ⟨bl, 0, none⟩)] ∧ OwnS 3 1 sv (if bk then m.reverse else m).length ((if bk then m.reverse else m).map (Value.int .i64)) HB ∧ H' = (bl, .cells 22 1 [sv]) :: (HB ++ ((bo, .cells 57 3 [.int .i64 (room : Int), .int .i64 ((last : Nat) : Int), .map (some bm)]) :: (bm, .obj (mapO (Value.int .i64) l c)) :: H))) := by
  refine L_enter (l := [.pointer (some ⟨bo, 0, none⟩), .bool bk]) Try.func26 rfl Try.ntmps26 rfl rfl ?_
  refine W_sr ?_
  refine W_box rfl rfl rfl (fun b2 => ?_)
  refine W_assign rfl rfl ?_
  refine W_nil ?_
  refine W_sr ?_
  refine W_alloc ty22 rfl rfl (fun b5 => ?_)
  refine W_nil ?_
  refine W_seq ?_
  refine W_sr ?_
  refine W_load rfl ty24 rfl (Cell.own (b := b2) (by repeat (first | exact List.mem_cons_self | apply List.mem_cons_of_mem | apply List.mem_append_right)) rfl) rfl ?_
  refine W_x (X_ptrNotNil rfl rfl ty24) (fun _ h => by cases h) rfl ?_
  refine W_nil ?_
  refine W_condT rfl rfl ?_
  refine W_seq ?_
  refine W_sr ?_
  refine W_load rfl ty24 rfl (Cell.own (b := b2) (by repeat (first | exact List.mem_cons_self | apply List.mem_cons_of_mem | apply List.mem_append_right)) rfl) rfl ?_
  refine W_nilCheck rfl rfl ?_
  refine W_fieldAddr rfl fld57_2 (by decide) rfl ?_
  refine W_load rfl ty55 rfl (Cell.own (b := bo) (by repeat (first | exact List.mem_cons_self | apply List.mem_cons_of_mem | apply List.mem_append_right)) rfl) rfl ?_
  refine W_range (kf := (Value.int .i64)) (l := l) (cl := c) rfl ty55 (by repeat (first | exact List.mem_cons_self | apply List.mem_cons_of_mem | apply List.mem_append_right)) rfl (fun r => ?_)
  refine W_nil ?_
  refine W_block ?_
  refine W_loopC (X := (Ents Int × Value × Heap)) [(1, _), (2, _), (5, _), (13, _)] (fun (x : (Ents Int × Value × Heap)) => []) (fun _ => _) (fun (x : (Ents Int × Value × Heap)) => (r, .obj (iterO bm c (x.1.map (·.2.2)) c)) :: (b5, .cells 22 1 [x.2.1]) :: (b2, .cells 24 1 [.pointer (some ⟨bo, 0, none⟩)]) :: (x.2.2 ++ ((bo, .cells 57 3 [.int .i64 (room : Int), .int .i64 ((last : Nat) : Int), .map (some bm)]) :: (bm, .obj (mapO (Value.int .i64) l c)) :: H))) (fun (x : (Ents Int × Value × Heap)) => (x.1.map (·.2.2)).Nodup ∧ (∀ p ∈ x.1, p ∈ l) ∧ OwnS 3 1 x.2.1 (x.1.map (·.1)).length ((x.1.map (·.1)).map (Value.int .i64)) x.2.2) (fun (x : (Ents Int × Value × Heap)) => l.length - x.1.length) ([], .slice none 0 0, []) ⟨.nil, (fun p hp => (by cases hp)), .nil⟩ (sub_cons rfl (sub_cons rfl (sub_cons rfl (sub_cons rfl (sub_nil _))))) (sub_nil _) rfl (HSub.refl _) ?_
  rintro ⟨vs, xv, XB⟩ ⟨hnd, hin, hX⟩
  dsimp only at hnd hin hX ⊢
  simp only [List.cons_append, List.nil_append]
  refine W_sr ?_
  refine W_next (kf := (Value.int .i64)) (l := l) (cl := c) (b := bm) (r := r) (since := c) (c0 := c) (sl := vs.map (·.2.2)) (HN := fun p => (r, .obj (iterO bm c (vs.map (·.2.2) ++ [p.2.2]) c)) :: (b5, .cells 22 1 [xv]) :: (b2, .cells 24 1 [.pointer (some ⟨bo, 0, none⟩)]) :: (XB ++ ((bo, .cells 57 3 [.int .i64 (room : Int), .int .i64 ((last : Nat) : Int), .map (some bm)]) :: (bm, .obj (mapO (Value.int .i64) l c)) :: H))) rfl (by repeat (first | exact List.mem_cons_self | apply List.mem_cons_of_mem | apply List.mem_append_right)) (by repeat (first | exact List.mem_cons_self | apply List.mem_cons_of_mem | apply List.mem_append_right)) hO.ok.lt (Nat.le_refl _) (fun p => .head _) rfl (fun hall => ?_) (fun p hp hnp => ?_)
  · skip
    refine W_extract rfl rfl rfl ?_
    refine W_nil ?_
    refine W_seq ?_
    refine W_condF rfl rfl ?_
    refine W_exit rfl ?_
    refine W_region ?_
    have hp := visit_perm hO.ok hnd hin hall
    have hpm : (vs.map (·.1)).Perm m := (hp.map _).trans hO.keys
    have hlen : (vs.map (·.1)).length = m.length := hpm.length_eq
    rcases own_or hX with ⟨rfl, hn0, -, rfl⟩ | ⟨b, cap, rfl, rfl, hcap, hmax⟩
    · skip
      refine W_load (v := .slice none 0 0) rfl ty22 rfl (Cell.own (b := b5) (by repeat (first | exact List.mem_cons_self | apply List.mem_cons_of_mem | apply List.mem_append_right)) rfl) rfl ?_
      refine W_makeFunc .nil (.cons rfl .nil) rfl ?_
      refine W_callp (.cons rfl (.cons rfl .nil)) Try.call29 rfl (T := fun _ => True) trivial (srtI_nil _) ?_
      refine W_nil ?_
      refine W_seq ?_
      refine W_sr ?_
      refine W_move rfl rfl ?_
      refine W_nil ?_
      refine W_condS rfl (fun c0 => ?_) (fun c0 => ?_)
      · skip
        refine W_region ?_
        refine W_load (v := .slice none 0 0) rfl ty22 rfl (Cell.own (b := b5) (by repeat (first | exact List.mem_cons_self | apply List.mem_cons_of_mem | apply List.mem_append_right)) rfl) rfl ?_
        refine W_callp (.cons rfl .nil) Try.call32 rfl (T := fun _ => True) trivial revI_nil ?_
        refine W_nil ?_
        refine W_sr ?_
        refine W_makeFunc .nil (.cons rfl .nil) rfl ?_
        refine W_assign rfl rfl ?_
        refine W_nil ?_
        refine W_ret1m (H2 := (b5, .cells 22 1 [.slice none 0 0]) :: ([] ++ ((bo, .cells 57 3 [.int .i64 (room : Int), .int .i64 ((last : Nat) : Int), .map (some bm)]) :: (bm, .obj (mapO (Value.int .i64) l c)) :: H))) Try.results26 rfl (.nil _) (by repeat (first | with_reducible exact HSub.refl _ | refine HSub.cons (by repeat (first | exact Take.here _ | apply Take.next | apply Take.app)) ?_ | refine HSub.app (by repeat (first | with_reducible exact TakeS.here _ | apply TakeS.next | apply TakeS.app)) ?_ | exact HSub.nil _ | exact HSub.refl _ | refine HSub.drop ?_ | refine HSub.dropS ?_)) ?_
        have hm0 : m = [] := List.eq_nil_of_length_eq_zero (by omega)
        subst hm0
        exact ⟨b5, .slice none 0 0, [], rfl, by rw [if_pos c0]; exact .nil, rfl⟩
      · skip
        refine W_skip ?_
        refine W_sr ?_
        refine W_makeFunc .nil (.cons rfl .nil) rfl ?_
        refine W_assign rfl rfl ?_
        refine W_nil ?_
        refine W_ret1m (H2 := (b5, .cells 22 1 [.slice none 0 0]) :: ([] ++ ((bo, .cells 57 3 [.int .i64 (room : Int), .int .i64 ((last : Nat) : Int), .map (some bm)]) :: (bm, .obj (mapO (Value.int .i64) l c)) :: H))) Try.results26 rfl (.nil _) (by repeat (first | with_reducible exact HSub.refl _ | refine HSub.cons (by repeat (first | exact Take.here _ | apply Take.next | apply Take.app)) ?_ | refine HSub.app (by repeat (first | with_reducible exact TakeS.here _ | apply TakeS.next | apply TakeS.app)) ?_ | exact HSub.nil _ | exact HSub.refl _ | refine HSub.drop ?_ | refine HSub.dropS ?_)) ?_
        have hm0 : m = [] := List.eq_nil_of_length_eq_zero (by omega)
        subst hm0
        exact ⟨b5, .slice none 0 0, [], rfl, by rw [if_neg (by rw [c0]; simp)]; exact .nil, rfl⟩
    · skip
      refine W_load (v := .slice (some ⟨b, 0, none⟩) (vs.map (·.1)).length cap) rfl ty22 rfl (Cell.own (b := b5) (by repeat (first | exact List.mem_cons_self | apply List.mem_cons_of_mem | apply List.mem_append_right)) rfl) rfl ?_
      refine W_makeFunc .nil (.cons rfl .nil) rfl ?_
      rw [List.singleton_append]
      have hcc := sortI_L (w0 := w0) (b2 := b2) (bo := bo) (bm := bm) (H := (b5, .cells 22 1 [.slice (some ⟨b, 0, none⟩) (vs.map (·.1)).length cap]) :: H) (b := b) (tot := cap * 1) (cap := cap) (d := vs.map (·.1)) hO (by have := hO.le; omega)
      refine W_call (.cons rfl (.cons rfl .nil)) Try.call29 rfl (hcc.hsub (.cons (by repeat (first | exact Take.here _ | apply Take.next | apply Take.app)) (.cons (by repeat (first | exact Take.here _ | apply Take.next | apply Take.app)) (.cons (by repeat (first | exact Take.here _ | apply Take.next | apply Take.app)) (.cons (by repeat (first | exact Take.here _ | apply Take.next | apply Take.app)) (.cons (by repeat (first | exact Take.here _ | apply Take.next | apply Take.app)) (.drop (.refl _)))))))) ?_
      rintro v H' ⟨rfl, d', hd', hsd, rfl⟩
      obtain rfl : d' = m := sorted_is (hd'.trans hpm) hO.nodup hO.asc hsd
      rw [hlen]
      refine W_nil ?_
      refine W_seq ?_
      refine W_sr ?_
      refine W_move rfl rfl ?_
      refine W_nil ?_
      refine W_condS rfl (fun c0 => ?_) (fun c0 => ?_)
      · skip
        refine W_region ?_
        refine W_load (v := (.slice (some ⟨b, 0, none⟩) d'.length cap)) rfl ty22 rfl (Cell.own (b := b5) (by repeat (first | exact List.mem_cons_self | apply List.mem_cons_of_mem | apply List.mem_append_right)) rfl) rfl ?_
        refine W_call (.cons rfl .nil) Try.call32 rfl ((revI_L (b := b) (tot := cap * 1) (cap := cap) (d := d') (by have := hO.le; omega)).hsub (.cons (by repeat (first | exact Take.here _ | apply Take.next | apply Take.app)) (.refl _))) ?_
        rintro v H' ⟨rfl, rfl⟩
        refine W_nil ?_
        refine W_sr ?_
        refine W_makeFunc .nil (.cons rfl .nil) rfl ?_
        refine W_assign rfl rfl ?_
        refine W_nil ?_
        refine W_ret1m (H2 := (b5, .cells 22 1 [(.slice (some ⟨b, 0, none⟩) d'.length cap)]) :: ([(b, .cells 3 (cap * 1) ((d'.reverse).map (Value.int .i64)))] ++ ((bo, .cells 57 3 [.int .i64 (room : Int), .int .i64 ((last : Nat) : Int), .map (some bm)]) :: (bm, .obj (mapO (Value.int .i64) l c)) :: H))) Try.results26 rfl (.nil _) (by repeat (first | with_reducible exact HSub.refl _ | refine HSub.cons (by repeat (first | exact Take.here _ | apply Take.next | apply Take.app)) ?_ | refine HSub.app (by repeat (first | with_reducible exact TakeS.here _ | apply TakeS.next | apply TakeS.app)) ?_ | exact HSub.nil _ | exact HSub.refl _ | refine HSub.drop ?_ | refine HSub.dropS ?_)) ?_
        refine ⟨b5, _, _, rfl, ?_, rfl⟩
        rw [if_pos c0]
        have h := OwnS.own (e := 3) (s := 1) (b := b) (n := (d'.reverse).length) (cap := cap) (xs := (d'.reverse).map (Value.int .i64)) (by simp) (by first | omega | (rw [List.length_reverse]; omega)) hmax
        rwa [List.length_reverse] at h ⊢
      · skip
        refine W_skip ?_
        refine W_sr ?_
        refine W_makeFunc .nil (.cons rfl .nil) rfl ?_
        refine W_assign rfl rfl ?_
        refine W_nil ?_
        refine W_ret1m (H2 := (b5, .cells 22 1 [(.slice (some ⟨b, 0, none⟩) d'.length cap)]) :: ([(b, .cells 3 (cap * 1) ((d').map (Value.int .i64)))] ++ ((bo, .cells 57 3 [.int .i64 (room : Int), .int .i64 ((last : Nat) : Int), .map (some bm)]) :: (bm, .obj (mapO (Value.int .i64) l c)) :: H))) Try.results26 rfl (.nil _) (by repeat (first | with_reducible exact HSub.refl _ | refine HSub.cons (by repeat (first | exact Take.here _ | apply Take.next | apply Take.app)) ?_ | refine HSub.app (by repeat (first | with_reducible exact TakeS.here _ | apply TakeS.next | apply TakeS.app)) ?_ | exact HSub.nil _ | exact HSub.refl _ | refine HSub.drop ?_ | refine HSub.dropS ?_)) ?_
        refine ⟨b5, _, _, rfl, ?_, rfl⟩
        rw [if_neg (by rw [c0]; simp)]
        have h := OwnS.own (e := 3) (s := 1) (b := b) (n := (d').length) (cap := cap) (xs := (d').map (Value.int .i64)) (by simp) (by first | omega | (rw [List.length_reverse]; omega)) hmax
        exact h
  · skip
    refine W_extract rfl rfl rfl ?_
    refine W_nil ?_
    refine W_seq ?_
    refine W_condT rfl rfl ?_
    refine W_skip ?_
    refine W_block ?_
    refine W_sr ?_
    refine W_entry (kf := (Value.int .i64)) (l := l) (cl := c) (b := bm) (r := r) (since := c) (sl := vs.map (·.2.2)) (p := p) rfl (by repeat (first | exact List.mem_cons_self | apply List.mem_cons_of_mem | apply List.mem_append_right)) (by repeat (first | exact List.mem_cons_self | apply List.mem_cons_of_mem | apply List.mem_append_right)) hp hO.ok rfl ?_
    refine W_extract rfl rfl rfl ?_
    refine W_assign rfl rfl ?_
    refine W_nil ?_
    refine W_region ?_
    refine W_load (v := xv) rfl ty22 rfl (Cell.own (b := b5) (by repeat (first | exact List.mem_cons_self | apply List.mem_cons_of_mem | apply List.mem_append_right)) rfl) rfl ?_
    refine W_move rfl rfl ?_
    refine W_buildSlice (l := [(Value.int .i64) p.1]) ty22 ty3 (.cons rfl rfl rfl rfl rfl .nil) rfl rfl rfl rfl rfl rfl rfl (fun b20 => ?_)
    refine W_append (news := [(Value.int .i64) p.1]) (m := 1) (HB := XB) (H0 := (r, .obj (iterO bm c (vs.map (·.2.2) ++ [p.2.2]) c)) :: (b5, .cells 22 1 [xv]) :: (b2, .cells 24 1 [.pointer (some ⟨bo, 0, none⟩)]) :: ((bo, .cells 57 3 [.int .i64 (room : Int), .int .i64 ((last : Nat) : Int), .map (some bm)]) :: (bm, .obj (mapO (Value.int .i64) l c)) :: H)) rfl rfl ty22 ty3 rfl (by decide) hX rfl (Holds.own List.mem_cons_self) rfl (by have := visit_lt hnd hin hp hnp; rw [List.length_map]; have := hO.len; have := hO.le; simp only [maxLen]; omega) (by have := visit_lt hnd hin hp hnp; rw [List.length_map]; have := hO.len; have := hO.le; omega) (by repeat (first | with_reducible exact HSub.refl _ | refine HSub.cons (by repeat (first | exact Take.here _ | apply Take.next | apply Take.app)) ?_ | refine HSub.app (by repeat (first | with_reducible exact TakeS.here _ | apply TakeS.next | apply TakeS.app)) ?_ | exact HSub.nil _ | exact HSub.refl _ | refine HSub.drop ?_ | refine HSub.dropS ?_)) rfl (fun v' HB' hO' => ?_)
    refine W_store (l' := [v']) rfl rfl ty22 (by obtain ⟨a0, c0', e0, _⟩ := hO'.shape; rw [e0]; rfl) rfl (b := b5) (by repeat (first | exact List.mem_cons_self | apply List.mem_cons_of_mem | apply List.mem_append_right)) rfl rfl (by repeat (first | exact Upd.head _ | apply Upd.tail | apply Upd.app)) ?_
    refine W_nil ?_
    refine W_blk ?_
    refine W_again (vs ++ [p], v', HB') ⟨by show ((vs ++ [p]).map (·.2.2)).Nodup; rw [List.map_append]; exact List.nodup_append.2 ⟨hnd, by simp, fun x hx y hy e => hnp (by obtain rfl : y = p.2.2 := (by simpa using hy); exact e ▸ hx)⟩, fun q hq => (List.mem_append.1 hq).elim (hin q) (fun h => by obtain rfl : q = p := (by simpa using h); exact hp), by show OwnS _ _ v' ((vs ++ [p]).map (·.1)).length (((vs ++ [p]).map (·.1)).map (Value.int .i64)) HB'; simp only [List.map_append, List.length_append, List.map_cons, List.map_nil, List.length_cons, List.length_nil] at hO' ⊢; exact hO'⟩ (by show l.length - (vs ++ [p]).length < l.length - vs.length; have := visit_lt hnd hin hp hnp; rw [List.length_append, List.length_singleton]; omega) (sub_cons rfl (sub_cons rfl (sub_cons rfl (sub_cons rfl (sub_nil _))))) rfl (by simp only [List.map_append, List.map_cons, List.map_nil]; repeat (first | with_reducible exact HSub.refl _ | refine HSub.cons (by repeat (first | exact Take.here _ | apply Take.next | apply Take.app)) ?_ | refine HSub.app (by repeat (first | with_reducible exact TakeS.here _ | apply TakeS.next | apply TakeS.app)) ?_ | exact HSub.nil _ | exact HSub.refl _ | refine HSub.drop ?_ | refine HSub.dropS ?_))
set_option maxHeartbeats 1000000 in
theorem sortedI_nil {w0 : World} {H : Heap} (bk : Bool)  : LCalls Try.prog w0 26 #[.pointer none, .bool bk] (H) (fun v H' => ∃ bl, v = .func (.func 33) #[] #[.pointer (some ⟨bl, 0, none⟩)] ∧ H' = (bl, .cells 22 1 [.slice none 0 0]) :: H) := by
  refine L_enter (l := [.pointer none, .bool bk]) Try.func26 rfl Try.ntmps26 rfl rfl ?_
  refine W_sr ?_
  refine W_box rfl rfl rfl (fun b2 => ?_)
  refine W_assign rfl rfl ?_
  refine W_nil ?_
  refine W_sr ?_
  refine W_alloc ty22 rfl rfl (fun b5 => ?_)
  refine W_nil ?_
  refine W_seq ?_
  refine W_sr ?_
  refine W_load rfl ty24 rfl (Cell.own (b := b2) (by repeat (first | exact List.mem_cons_self | apply List.mem_cons_of_mem | apply List.mem_append_right)) rfl) rfl ?_
  refine W_x (X_ptrNotNil rfl rfl ty24) (fun _ h => by cases h) rfl ?_
  refine W_nil ?_
  refine W_condF rfl rfl ?_
  refine W_skip ?_
  refine W_seq ?_
  refine W_sr ?_
  refine W_move rfl rfl ?_
  refine W_nil ?_
  refine W_condS rfl (fun c0 => ?_) (fun c0 => ?_)
  · skip
    refine W_region ?_
    refine W_load (v := .slice none 0 0) rfl ty22 rfl (Cell.own (b := b5) (by repeat (first | exact List.mem_cons_self | apply List.mem_cons_of_mem | apply List.mem_append_right)) rfl) rfl ?_
    refine W_callp (.cons rfl .nil) Try.call32 rfl (T := fun _ => True) trivial revI_nil ?_
    refine W_nil ?_
    refine W_sr ?_
    refine W_makeFunc .nil (.cons rfl .nil) rfl ?_
    refine W_assign rfl rfl ?_
    refine W_nil ?_
    refine W_ret1m (H2 := (b5, .cells 22 1 [.slice none 0 0]) :: H) Try.results26 rfl (.nil _) (by repeat (first | with_reducible exact HSub.refl _ | refine HSub.cons (by repeat (first | exact Take.here _ | apply Take.next | apply Take.app)) ?_ | refine HSub.app (by repeat (first | with_reducible exact TakeS.here _ | apply TakeS.next | apply TakeS.app)) ?_ | exact HSub.nil _ | exact HSub.refl _ | refine HSub.drop ?_ | refine HSub.dropS ?_)) ?_
    exact ⟨b5, rfl, rfl⟩
  · skip
    refine W_skip ?_
    refine W_sr ?_
    refine W_makeFunc .nil (.cons rfl .nil) rfl ?_
    refine W_assign rfl rfl ?_
    refine W_nil ?_
    refine W_ret1m (H2 := (b5, .cells 22 1 [.slice none 0 0]) :: H) Try.results26 rfl (.nil _) (by repeat (first | with_reducible exact HSub.refl _ | refine HSub.cons (by repeat (first | exact Take.here _ | apply Take.next | apply Take.app)) ?_ | refine HSub.app (by repeat (first | with_reducible exact TakeS.here _ | apply TakeS.next | apply TakeS.app)) ?_ | exact HSub.nil _ | exact HSub.refl _ | refine HSub.drop ?_ | refine HSub.dropS ?_)) ?_
    exact ⟨b5, rfl, rfl⟩
set_option maxHeartbeats 1000000 in
theorem sortedS_L {w0 : World} {H : Heap} {room last c bo bm : Nat} {m : List ByteArray} {l : Ents ByteArray} {τ : ByteArray → Nat} (hO : OrdIs room m last l c τ) (bk : Bool) (h64 : room ≤ 64)  : LCalls Try.prog w0 27 #[.pointer (some ⟨bo, 0, none⟩), .bool bk] ((bo, .cells 63 3 [.int .i64 (room : Int), .int .i64 ((last : Nat) : Int), .map (some bm)]) :: (bm, .obj (mapO Value.string l c)) :: H) (fun v H' => ∃ bl sv HB, v = .func (.func 37) #[] #[.pointer (some ⟨bl, 0, none⟩)] ∧ OwnS 9 1 sv (if bk then m.reverse else m).length ((if bk then m.reverse else m).map Value.string) HB ∧ H' = (bl, .cells 35 1 [sv]) :: (HB ++ ((bo, .cells 63 3 [.int .i64 (room : Int), .int .i64 ((last : Nat) : Int), .map (some bm)]) :: (bm, .obj (mapO Value.string l c)) :: H))) := by
  refine L_enter (l := [.pointer (some ⟨bo, 0, none⟩), .bool bk]) Try.func27 rfl Try.ntmps27 rfl rfl ?_
  refine W_sr ?_
  refine W_box rfl rfl rfl (fun b2 => ?_)
  refine W_assign rfl rfl ?_
  refine W_nil ?_
  refine W_sr ?_
  refine W_alloc ty35 rfl rfl (fun b5 => ?_)
  refine W_nil ?_
  refine W_seq ?_
  refine W_sr ?_
  refine W_load rfl ty37 rfl (Cell.own (b := b2) (by repeat (first | exact List.mem_cons_self | apply List.mem_cons_of_mem | apply List.mem_append_right)) rfl) rfl ?_
  refine W_x (X_ptrNotNil rfl rfl ty37) (fun _ h => by cases h) rfl ?_
  refine W_nil ?_
  refine W_condT rfl rfl ?_
  refine W_seq ?_
  refine W_sr ?_
  refine W_load rfl ty37 rfl (Cell.own (b := b2) (by repeat (first | exact List.mem_cons_self | apply List.mem_cons_of_mem | apply List.mem_append_right)) rfl) rfl ?_
  refine W_nilCheck rfl rfl ?_
  refine W_fieldAddr rfl fld63_2 (by decide) rfl ?_
  refine W_load rfl ty61 rfl (Cell.own (b := bo) (by repeat (first | exact List.mem_cons_self | apply List.mem_cons_of_mem | apply List.mem_append_right)) rfl) rfl ?_
  refine W_range (kf := Value.string) (l := l) (cl := c) rfl ty61 (by repeat (first | exact List.mem_cons_self | apply List.mem_cons_of_mem | apply List.mem_append_right)) rfl (fun r => ?_)
  refine W_nil ?_
  refine W_block ?_
  refine W_loopC (X := (Ents ByteArray × Value × Heap)) [(1, _), (2, _), (5, _), (13, _)] (fun (x : (Ents ByteArray × Value × Heap)) => []) (fun _ => _) (fun (x : (Ents ByteArray × Value × Heap)) => (r, .obj (iterO bm c (x.1.map (·.2.2)) c)) :: (b5, .cells 35 1 [x.2.1]) :: (b2, .cells 37 1 [.pointer (some ⟨bo, 0, none⟩)]) :: (x.2.2 ++ ((bo, .cells 63 3 [.int .i64 (room : Int), .int .i64 ((last : Nat) : Int), .map (some bm)]) :: (bm, .obj (mapO Value.string l c)) :: H))) (fun (x : (Ents ByteArray × Value × Heap)) => (x.1.map (·.2.2)).Nodup ∧ (∀ p ∈ x.1, p ∈ l) ∧ OwnS 9 1 x.2.1 (x.1.map (·.1)).length ((x.1.map (·.1)).map Value.string) x.2.2) (fun (x : (Ents ByteArray × Value × Heap)) => l.length - x.1.length) ([], .slice none 0 0, []) ⟨.nil, (fun p hp => (by cases hp)), .nil⟩ (sub_cons rfl (sub_cons rfl (sub_cons rfl (sub_cons rfl (sub_nil _))))) (sub_nil _) rfl (HSub.refl _) ?_
  rintro ⟨vs, xv, XB⟩ ⟨hnd, hin, hX⟩
  dsimp only at hnd hin hX ⊢
  simp only [List.cons_append, List.nil_append]
  refine W_sr ?_
  refine W_next (kf := Value.string) (l := l) (cl := c) (b := bm) (r := r) (since := c) (c0 := c) (sl := vs.map (·.2.2)) (HN := fun p => (r, .obj (iterO bm c (vs.map (·.2.2) ++ [p.2.2]) c)) :: (b5, .cells 35 1 [xv]) :: (b2, .cells 37 1 [.pointer (some ⟨bo, 0, none⟩)]) :: (XB ++ ((bo, .cells 63 3 [.int .i64 (room : Int), .int .i64 ((last : Nat) : Int), .map (some bm)]) :: (bm, .obj (mapO Value.string l c)) :: H))) rfl (by repeat (first | exact List.mem_cons_self | apply List.mem_cons_of_mem | apply List.mem_append_right)) (by repeat (first | exact List.mem_cons_self | apply List.mem_cons_of_mem | apply List.mem_append_right)) hO.ok.lt (Nat.le_refl _) (fun p => .head _) rfl (fun hall => ?_) (fun p hp hnp => ?_)
  · skip
    refine W_extract rfl rfl rfl ?_
    refine W_nil ?_
    refine W_seq ?_
    refine W_condF rfl rfl ?_
    refine W_exit rfl ?_
    refine W_region ?_
    have hp := visit_perm hO.ok hnd hin hall
    have hpm : (vs.map (·.1)).Perm m := (hp.map _).trans hO.keys
    have hlen : (vs.map (·.1)).length = m.length := hpm.length_eq
    rcases own_or hX with ⟨rfl, hn0, -, rfl⟩ | ⟨b, cap, rfl, rfl, hcap, hmax⟩
    · skip
      refine W_load (v := .slice none 0 0) rfl ty35 rfl (Cell.own (b := b5) (by repeat (first | exact List.mem_cons_self | apply List.mem_cons_of_mem | apply List.mem_append_right)) rfl) rfl ?_
      refine W_makeFunc .nil (.cons rfl .nil) rfl ?_
      refine W_callp (.cons rfl (.cons rfl .nil)) Try.call34 rfl (T := fun _ => True) trivial (srtS_nil _) ?_
      refine W_nil ?_
      refine W_seq ?_
      refine W_sr ?_
      refine W_move rfl rfl ?_
      refine W_nil ?_
      refine W_condS rfl (fun c0 => ?_) (fun c0 => ?_)
      · skip
        refine W_region ?_
        refine W_load (v := .slice none 0 0) rfl ty35 rfl (Cell.own (b := b5) (by repeat (first | exact List.mem_cons_self | apply List.mem_cons_of_mem | apply List.mem_append_right)) rfl) rfl ?_
        refine W_callp (.cons rfl .nil) Try.call36 rfl (T := fun _ => True) trivial revS_nil ?_
        refine W_nil ?_
        refine W_sr ?_
        refine W_makeFunc .nil (.cons rfl .nil) rfl ?_
        refine W_assign rfl rfl ?_
        refine W_nil ?_
        refine W_ret1m (H2 := (b5, .cells 35 1 [.slice none 0 0]) :: ([] ++ ((bo, .cells 63 3 [.int .i64 (room : Int), .int .i64 ((last : Nat) : Int), .map (some bm)]) :: (bm, .obj (mapO Value.string l c)) :: H))) Try.results27 rfl (.nil _) (by repeat (first | with_reducible exact HSub.refl _ | refine HSub.cons (by repeat (first | exact Take.here _ | apply Take.next | apply Take.app)) ?_ | refine HSub.app (by repeat (first | with_reducible exact TakeS.here _ | apply TakeS.next | apply TakeS.app)) ?_ | exact HSub.nil _ | exact HSub.refl _ | refine HSub.drop ?_ | refine HSub.dropS ?_)) ?_
        have hm0 : m = [] := List.eq_nil_of_length_eq_zero (by omega)
        subst hm0
        exact ⟨b5, .slice none 0 0, [], rfl, by rw [if_pos c0]; exact .nil, rfl⟩
      · skip
        refine W_skip ?_
        refine W_sr ?_
        refine W_makeFunc .nil (.cons rfl .nil) rfl ?_
        refine W_assign rfl rfl ?_
        refine W_nil ?_
        refine W_ret1m (H2 := (b5, .cells 35 1 [.slice none 0 0]) :: ([] ++ ((bo, .cells 63 3 [.int .i64 (room : Int), .int .i64 ((last : Nat) : Int), .map (some bm)]) :: (bm, .obj (mapO Value.string l c)) :: H))) Try.results27 rfl (.nil _) (by repeat (first | with_reducible exact HSub.refl _ | refine HSub.cons (by repeat (first | exact Take.here _ | apply Take.next | apply Take.app)) ?_ | refine HSub.app (by repeat (first | with_reducible exact TakeS.here _ | apply TakeS.next | apply TakeS.app)) ?_ | exact HSub.nil _ | exact HSub.refl _ | refine HSub.drop ?_ | refine HSub.dropS ?_)) ?_
        have hm0 : m = [] := List.eq_nil_of_length_eq_zero (by omega)
        subst hm0
        exact ⟨b5, .slice none 0 0, [], rfl, by rw [if_neg (by rw [c0]; simp)]; exact .nil, rfl⟩
    · skip
      refine W_load (v := .slice (some ⟨b, 0, none⟩) (vs.map (·.1)).length cap) rfl ty35 rfl (Cell.own (b := b5) (by repeat (first | exact List.mem_cons_self | apply List.mem_cons_of_mem | apply List.mem_append_right)) rfl) rfl ?_
      refine W_makeFunc .nil (.cons rfl .nil) rfl ?_
      rw [List.singleton_append]
      have hcc := sortS_L (w0 := w0) (b2 := b2) (bo := bo) (bm := bm) (H := (b5, .cells 35 1 [.slice (some ⟨b, 0, none⟩) (vs.map (·.1)).length cap]) :: H) (b := b) (tot := cap * 1) (cap := cap) (d := vs.map (·.1)) hO (by have := hO.le; omega)
      refine W_call (.cons rfl (.cons rfl .nil)) Try.call34 rfl (hcc.hsub (.cons (by repeat (first | exact Take.here _ | apply Take.next | apply Take.app)) (.cons (by repeat (first | exact Take.here _ | apply Take.next | apply Take.app)) (.cons (by repeat (first | exact Take.here _ | apply Take.next | apply Take.app)) (.cons (by repeat (first | exact Take.here _ | apply Take.next | apply Take.app)) (.cons (by repeat (first | exact Take.here _ | apply Take.next | apply Take.app)) (.drop (.refl _)))))))) ?_
      rintro v H' ⟨rfl, d', hd', hsd, rfl⟩
      obtain rfl : d' = m := sorted_is (hd'.trans hpm) hO.nodup hO.asc hsd
      rw [hlen]
      refine W_nil ?_
      refine W_seq ?_
      refine W_sr ?_
      refine W_move rfl rfl ?_
      refine W_nil ?_
      refine W_condS rfl (fun c0 => ?_) (fun c0 => ?_)
      · skip
        refine W_region ?_
        refine W_load (v := (.slice (some ⟨b, 0, none⟩) d'.length cap)) rfl ty35 rfl (Cell.own (b := b5) (by repeat (first | exact List.mem_cons_self | apply List.mem_cons_of_mem | apply List.mem_append_right)) rfl) rfl ?_
        refine W_call (.cons rfl .nil) Try.call36 rfl ((revS_L (b := b) (tot := cap * 1) (cap := cap) (d := d') (by have := hO.le; omega)).hsub (.cons (by repeat (first | exact Take.here _ | apply Take.next | apply Take.app)) (.refl _))) ?_
        rintro v H' ⟨rfl, rfl⟩
        refine W_nil ?_
        refine W_sr ?_
        refine W_makeFunc .nil (.cons rfl .nil) rfl ?_
        refine W_assign rfl rfl ?_
        refine W_nil ?_
        refine W_ret1m (H2 := (b5, .cells 35 1 [(.slice (some ⟨b, 0, none⟩) d'.length cap)]) :: ([(b, .cells 9 (cap * 1) ((d'.reverse).map Value.string))] ++ ((bo, .cells 63 3 [.int .i64 (room : Int), .int .i64 ((last : Nat) : Int), .map (some bm)]) :: (bm, .obj (mapO Value.string l c)) :: H))) Try.results27 rfl (.nil _) (by repeat (first | with_reducible exact HSub.refl _ | refine HSub.cons (by repeat (first | exact Take.here _ | apply Take.next | apply Take.app)) ?_ | refine HSub.app (by repeat (first | with_reducible exact TakeS.here _ | apply TakeS.next | apply TakeS.app)) ?_ | exact HSub.nil _ | exact HSub.refl _ | refine HSub.drop ?_ | refine HSub.dropS ?_)) ?_
        refine ⟨b5, _, _, rfl, ?_, rfl⟩
        rw [if_pos c0]
        have h := OwnS.own (e := 9) (s := 1) (b := b) (n := (d'.reverse).length) (cap := cap) (xs := (d'.reverse).map Value.string) (by simp) (by first | omega | (rw [List.length_reverse]; omega)) hmax
        rwa [List.length_reverse] at h ⊢
      · skip
        refine W_skip ?_
        refine W_sr ?_
        refine W_makeFunc .nil (.cons rfl .nil) rfl ?_
        refine W_assign rfl rfl ?_
        refine W_nil ?_
        refine W_ret1m (H2 := (b5, .cells 35 1 [(.slice (some ⟨b, 0, none⟩) d'.length cap)]) :: ([(b, .cells 9 (cap * 1) ((d').map Value.string))] ++ ((bo, .cells 63 3 [.int .i64 (room : Int), .int .i64 ((last : Nat) : Int), .map (some bm)]) :: (bm, .obj (mapO Value.string l c)) :: H))) Try.results27 rfl (.nil _) (by repeat (first | with_reducible exact HSub.refl _ | refine HSub.cons (by repeat (first | exact Take.here _ | apply Take.next | apply Take.app)) ?_ | refine HSub.app (by repeat (first | with_reducible exact TakeS.here _ | apply TakeS.next | apply TakeS.app)) ?_ | exact HSub.nil _ | exact HSub.refl _ | refine HSub.drop ?_ | refine HSub.dropS ?_)) ?_
        refine ⟨b5, _, _, rfl, ?_, rfl⟩
        rw [if_neg (by rw [c0]; simp)]
        have h := OwnS.own (e := 9) (s := 1) (b := b) (n := (d').length) (cap := cap) (xs := (d').map Value.string) (by simp) (by first | omega | (rw [List.length_reverse]; omega)) hmax
        exact h
  · skip
    refine W_extract rfl rfl rfl ?_
    refine W_nil ?_
    refine W_seq ?_
    refine W_condT rfl rfl ?_
    refine W_skip ?_
    refine W_block ?_
    refine W_sr ?_
    refine W_entry (kf := Value.string) (l := l) (cl := c) (b := bm) (r := r) (since := c) (sl := vs.map (·.2.2)) (p := p) rfl (by repeat (first | exact List.mem_cons_self | apply List.mem_cons_of_mem | apply List.mem_append_right)) (by repeat (first | exact List.mem_cons_self | apply List.mem_cons_of_mem | apply List.mem_append_right)) hp hO.ok rfl ?_
    refine W_extract rfl rfl rfl ?_
    refine W_assign rfl rfl ?_
    refine W_nil ?_
    refine W_region ?_
    refine W_load (v := xv) rfl ty35 rfl (Cell.own (b := b5) (by repeat (first | exact List.mem_cons_self | apply List.mem_cons_of_mem | apply List.mem_append_right)) rfl) rfl ?_
    refine W_move rfl rfl ?_
    refine W_buildSlice (l := [Value.string p.1]) ty35 ty9 (.cons rfl rfl rfl rfl rfl .nil) rfl rfl rfl rfl rfl rfl rfl (fun b20 => ?_)
    refine W_append (news := [Value.string p.1]) (m := 1) (HB := XB) (H0 := (r, .obj (iterO bm c (vs.map (·.2.2) ++ [p.2.2]) c)) :: (b5, .cells 35 1 [xv]) :: (b2, .cells 37 1 [.pointer (some ⟨bo, 0, none⟩)]) :: ((bo, .cells 63 3 [.int .i64 (room : Int), .int .i64 ((last : Nat) : Int), .map (some bm)]) :: (bm, .obj (mapO Value.string l c)) :: H)) rfl rfl ty35 ty9 rfl (by decide) hX rfl (Holds.own List.mem_cons_self) rfl (by have := visit_lt hnd hin hp hnp; rw [List.length_map]; have := hO.len; have := hO.le; simp only [maxLen]; omega) (by have := visit_lt hnd hin hp hnp; rw [List.length_map]; have := hO.len; have := hO.le; omega) (by repeat (first | with_reducible exact HSub.refl _ | refine HSub.cons (by repeat (first | exact Take.here _ | apply Take.next | apply Take.app)) ?_ | refine HSub.app (by repeat (first | with_reducible exact TakeS.here _ | apply TakeS.next | apply TakeS.app)) ?_ | exact HSub.nil _ | exact HSub.refl _ | refine HSub.drop ?_ | refine HSub.dropS ?_)) rfl (fun v' HB' hO' => ?_)
    refine W_store (l' := [v']) rfl rfl ty35 (by obtain ⟨a0, c0', e0, _⟩ := hO'.shape; rw [e0]; rfl) rfl (b := b5) (by repeat (first | exact List.mem_cons_self | apply List.mem_cons_of_mem | apply List.mem_append_right)) rfl rfl (by repeat (first | exact Upd.head _ | apply Upd.tail | apply Upd.app)) ?_
    refine W_nil ?_
    refine W_blk ?_
    refine W_again (vs ++ [p], v', HB') ⟨by show ((vs ++ [p]).map (·.2.2)).Nodup; rw [List.map_append]; exact List.nodup_append.2 ⟨hnd, by simp, fun x hx y hy e => hnp (by obtain rfl : y = p.2.2 := (by simpa using hy); exact e ▸ hx)⟩, fun q hq => (List.mem_append.1 hq).elim (hin q) (fun h => by obtain rfl : q = p := (by simpa using h); exact hp), by show OwnS _ _ v' ((vs ++ [p]).map (·.1)).length (((vs ++ [p]).map (·.1)).map Value.string) HB'; simp only [List.map_append, List.length_append, List.map_cons, List.map_nil, List.length_cons, List.length_nil] at hO' ⊢; exact hO'⟩ (by show l.length - (vs ++ [p]).length < l.length - vs.length; have := visit_lt hnd hin hp hnp; rw [List.length_append, List.length_singleton]; omega) (sub_cons rfl (sub_cons rfl (sub_cons rfl (sub_cons rfl (sub_nil _))))) rfl (by simp only [List.map_append, List.map_cons, List.map_nil]; repeat (first | with_reducible exact HSub.refl _ | refine HSub.cons (by repeat (first | exact Take.here _ | apply Take.next | apply Take.app)) ?_ | refine HSub.app (by repeat (first | with_reducible exact TakeS.here _ | apply TakeS.next | apply TakeS.app)) ?_ | exact HSub.nil _ | exact HSub.refl _ | refine HSub.drop ?_ | refine HSub.dropS ?_))
set_option maxHeartbeats 1000000 in
theorem sortedS_nil {w0 : World} {H : Heap} (bk : Bool)  : LCalls Try.prog w0 27 #[.pointer none, .bool bk] (H) (fun v H' => ∃ bl, v = .func (.func 37) #[] #[.pointer (some ⟨bl, 0, none⟩)] ∧ H' = (bl, .cells 35 1 [.slice none 0 0]) :: H) := by
  refine L_enter (l := [.pointer none, .bool bk]) Try.func27 rfl Try.ntmps27 rfl rfl ?_
  refine W_sr ?_
  refine W_box rfl rfl rfl (fun b2 => ?_)
  refine W_assign rfl rfl ?_
  refine W_nil ?_
  refine W_sr ?_
  refine W_alloc ty35 rfl rfl (fun b5 => ?_)
  refine W_nil ?_
  refine W_seq ?_
  refine W_sr ?_
  refine W_load rfl ty37 rfl (Cell.own (b := b2) (by repeat (first | exact List.mem_cons_self | apply List.mem_cons_of_mem | apply List.mem_append_right)) rfl) rfl ?_
  refine W_x (X_ptrNotNil rfl rfl ty37) (fun _ h => by cases h) rfl ?_
  refine W_nil ?_
  refine W_condF rfl rfl ?_
  refine W_skip ?_
  refine W_seq ?_
  refine W_sr ?_
  refine W_move rfl rfl ?_
  refine W_nil ?_
  refine W_condS rfl (fun c0 => ?_) (fun c0 => ?_)
  · skip
    refine W_region ?_
    refine W_load (v := .slice none 0 0) rfl ty35 rfl (Cell.own (b := b5) (by repeat (first | exact List.mem_cons_self | apply List.mem_cons_of_mem | apply List.mem_append_right)) rfl) rfl ?_
    refine W_callp (.cons rfl .nil) Try.call36 rfl (T := fun _ => True) trivial revS_nil ?_
    refine W_nil ?_
    refine W_sr ?_
    refine W_makeFunc .nil (.cons rfl .nil) rfl ?_
    refine W_assign rfl rfl ?_
    refine W_nil ?_
    refine W_ret1m (H2 := (b5, .cells 35 1 [.slice none 0 0]) :: H) Try.results27 rfl (.nil _) (by repeat (first | with_reducible exact HSub.refl _ | refine HSub.cons (by repeat (first | exact Take.here _ | apply Take.next | apply Take.app)) ?_ | refine HSub.app (by repeat (first | with_reducible exact TakeS.here _ | apply TakeS.next | apply TakeS.app)) ?_ | exact HSub.nil _ | exact HSub.refl _ | refine HSub.drop ?_ | refine HSub.dropS ?_)) ?_
    exact ⟨b5, rfl, rfl⟩
  · skip
    refine W_skip ?_
    refine W_sr ?_
    refine W_makeFunc .nil (.cons rfl .nil) rfl ?_
    refine W_assign rfl rfl ?_
    refine W_nil ?_
    refine W_ret1m (H2 := (b5, .cells 35 1 [.slice none 0 0]) :: H) Try.results27 rfl (.nil _) (by repeat (first | with_reducible exact HSub.refl _ | refine HSub.cons (by repeat (first | exact Take.here _ | apply Take.next | apply Take.app)) ?_ | refine HSub.app (by repeat (first | with_reducible exact TakeS.here _ | apply TakeS.next | apply TakeS.app)) ?_ | exact HSub.nil _ | exact HSub.refl _ | refine HSub.drop ?_ | refine HSub.dropS ?_)) ?_
    exact ⟨b5, rfl, rfl⟩
end Go.Proofs.Ytknbohnoiigioaa
