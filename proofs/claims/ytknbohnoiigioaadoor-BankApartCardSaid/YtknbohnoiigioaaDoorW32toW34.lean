/-
  Own work: contracts of functions that the statement reaches, and plain facts on what they compute; each theorem says its conditions.
-/
import Derived.Test.YtknbohnoiigioaaDoorW26toW31
set_option linter.all false
set_option linter.unusedSimpArgs false
set_option linter.unusedVariables false
namespace Go.Proofs.YtknbohnoiigioaaDoor
open Go Go.Sl
attribute [local irreducible] W
open Go.Proofs
theorem own_or {e : TypeId} {s : Nat} {v : Value} {n : Nat} {xs : List Value} {HB : Heap} (h : OwnS e s v n xs HB) : (v = .slice none 0 0 ∧ n = 0 ∧ xs = [] ∧ HB = []) ∨ ∃ b cap, v = .slice (some ⟨b, 0, none⟩) n cap ∧ HB = [(b, .cells e (cap * s) xs)] ∧ n ≤ cap ∧ cap ≤ maxLen := by
  cases h with
  | nil => exact .inl ⟨rfl, rfl, rfl, rfl⟩
  | own h1 h2 h3 => exact .inr ⟨_, _, rfl, rfl, h2, h3⟩
def sortI (l : List Int) : List Int := l.mergeSort fun x y => decide (x ≤ y)
theorem sortI_perm (l : List Int) : (sortI l).Perm l := List.mergeSort_perm _ _
theorem sortI_asc {l : List Int} (hn : l.Nodup) : (sortI l).Pairwise (· < ·) := by
  have h1 : (sortI l).Pairwise (fun x y => decide (x ≤ y) = true) := List.pairwise_mergeSort (fun a b c h1 h2 => by simp only [decide_eq_true_eq] at *; omega) (fun a b => by simp only [Bool.or_eq_true, decide_eq_true_eq]; omega) l
  have h2 : (sortI l).Nodup := (sortI_perm l).nodup_iff.2 hn
  have h3 := List.pairwise_and_iff.2 ⟨h1, h2⟩
  refine h3.imp ?_
  rintro a b ⟨h4, h5⟩
  have := of_decide_eq_true h4
  have h6 : a ≠ b := h5
  omega
open Go.Proofs in
theorem sortI_L {w0 : World} {H : Heap} {b tot cap : Nat} {d : List Int} (hd : d.length < 4611686018427387904) :
    LCalls Tryd.prog w0 64 #[.slice (some ⟨b, 0, none⟩) d.length cap] ((b, .cells 3 tot (d.map (Value.int .i64))) :: H) (fun v H' => v = .tuple #[] ∧ H' = (b, .cells 3 tot ((sortI d).map (Value.int .i64))) :: H) := fun w hs => by
  have hlt : b < w.heap.size := (hs.own _ List.mem_cons_self).2.lt
  have hc := Tryd.slices_Sort_int b 0 cap d w (holds_row (d := d) (enc := (Value.int .i64)) hs) hlt hd
  refine (callsIn_wide.2 hc).mono ?_
  rintro en w' ⟨rfl, n, os, rfl⟩
  refine ⟨_, _, rfl, ⟨rfl, rfl⟩, ?_⟩
  have hS : Sat w0 ((b, .cells 3 tot (((sortI d).toArray).toList.map (Value.int .i64))) :: H) (sortWorld (Value.int .i64) w b 0 n (sortI d).toArray os) := sat_sortWorld hs (by simp [(sortI_perm d).length_eq])
  exact hS
theorem asc_int : ∀ {a b : List Int}, a.Perm b → a.Pairwise (· < ·) → b.Pairwise (· < ·) → a = b
  | [], b, hp, _, _ => (List.Perm.nil_eq hp)
  | x :: a, b, hp, ha, hb => by
    cases b with
    | nil => exact absurd hp.length_eq (by simp)
    | cons y b =>
      have ha' := List.pairwise_cons.1 ha
      have hb' := List.pairwise_cons.1 hb
      have hxy : x = y := by
        rcases List.mem_cons.1 (hp.mem_iff.1 List.mem_cons_self) with h | h
        · exact h
        · rcases List.mem_cons.1 (hp.mem_iff.2 List.mem_cons_self) with h' | h'
          · exact h'.symm
          · have := hb'.1 x h; have := ha'.1 y h'; omega
      subst hxy
      rw [asc_int (List.Perm.cons_inv hp) ha'.2 hb'.2]
set_option maxHeartbeats 1000000 in
theorem Ids_at {w0 : World} {H : Heap} {now turn c bw bm : Nat} {L : List Tm} {sl : List Value} {XS : List Heap} {bs : List Nat} {l : Ents Int} (h : WhIs now L sl XS bs l c turn)  : LCalls Tryd.prog w0 43 #[.pointer (some ⟨bw, 0, none⟩)] ((bw, .cells 102 523 (whRow now sl bs bm turn)) :: (bm, .obj (mapO (Value.int .i64) l c)) :: (XS.flatten ++ H)) (fun v H' => ∃ XB, OwnS 3 1 v (sortI (L.map (·.id))).length ((sortI (L.map (·.id))).map (Value.int .i64)) XB ∧ H' = XB ++ ((bw, .cells 102 523 (whRow now sl bs bm turn)) :: (bm, .obj (mapO (Value.int .i64) l c)) :: (XS.flatten ++ H))) := by
  have hlL := h.len
  have hll : l.length = L.length := by have := h.keys.length_eq; rwa [List.length_map, List.length_map] at this
  refine L_enter (l := [.pointer (some ⟨bw, 0, none⟩)]) Tryd.func43 rfl Tryd.ntmps43 rfl rfl ?_
  refine W_sr ?_
  refine W_assign rfl rfl ?_
  refine W_nil ?_
  refine W_seq ?_
  refine W_sr ?_
  refine W_move rfl rfl ?_
  refine W_x (X_ptrNil rfl rfl ty24) (fun _ h => by cases h) rfl ?_
  refine W_nil ?_
  refine W_condF rfl rfl ?_
  refine W_skip ?_
  refine W_sr ?_
  refine W_assign rfl rfl ?_
  refine W_nil ?_
  refine W_seq ?_
  refine W_sr ?_
  refine W_move rfl rfl ?_
  refine W_nilCheck rfl rfl ?_
  refine W_fieldAddr rfl fld102_3 (by decide) rfl ?_
  refine W_load (v := .map (some bm)) rfl ty97 rfl (Cell.own (b := bw) (by repeat (first | exact List.mem_cons_self | apply List.mem_cons_of_mem | apply List.mem_append_right)) (wh_map h.row)) rfl ?_
  refine W_range (kf := (Value.int .i64)) (l := l) (cl := c) rfl ty97 (by repeat (first | exact List.mem_cons_self | apply List.mem_cons_of_mem | apply List.mem_append_right)) rfl (fun r => ?_)
  refine W_nil ?_
  refine W_block ?_
  refine W_loopC (X := (Ents Int × Value × Heap)) [(11, _)] (fun (x : (Ents Int × Value × Heap)) => [(3, x.2.1)]) (fun _ => _) (fun (x : (Ents Int × Value × Heap)) => (r, .obj (iterO bm c (x.1.map (·.2.2)) c)) :: (x.2.2 ++ ((bw, .cells 102 523 (whRow now sl bs bm turn)) :: (bm, .obj (mapO (Value.int .i64) l c)) :: (XS.flatten ++ H)))) (fun (x : (Ents Int × Value × Heap)) => (x.1.map (·.2.2)).Nodup ∧ (∀ p ∈ x.1, p ∈ l) ∧ OwnS 3 1 x.2.1 (x.1.map (·.1)).length ((x.1.map (·.1)).map (Value.int .i64)) x.2.2) (fun (x : (Ents Int × Value × Heap)) => l.length - x.1.length) ([], .slice none 0 0, []) ⟨.nil, (fun p hp => (by cases hp)), .nil⟩ (sub_cons rfl (sub_nil _)) (sub_cons rfl (sub_nil _)) rfl (HSub.refl _) ?_
  rintro ⟨vs, xv, XB⟩ ⟨hnd, hin, hX⟩
  dsimp only at hnd hin hX ⊢
  simp only [List.cons_append, List.nil_append]
  refine W_sr ?_
  refine W_next (kf := (Value.int .i64)) (l := l) (cl := c) (b := bm) (r := r) (since := c) (c0 := c) (sl := vs.map (·.2.2)) (HN := fun p => (r, .obj (iterO bm c (vs.map (·.2.2) ++ [p.2.2]) c)) :: (XB ++ ((bw, .cells 102 523 (whRow now sl bs bm turn)) :: (bm, .obj (mapO (Value.int .i64) l c)) :: (XS.flatten ++ H)))) rfl (by repeat (first | exact List.mem_cons_self | apply List.mem_cons_of_mem | apply List.mem_append_right)) (by repeat (first | exact List.mem_cons_self | apply List.mem_cons_of_mem | apply List.mem_append_right)) h.map.lt (Nat.le_refl _) (fun p => .head _) rfl (fun hall => ?_) (fun p hp hnp => ?_)
  · skip
    refine W_extract rfl rfl rfl ?_
    refine W_nil ?_
    refine W_seq ?_
    refine W_condF rfl rfl ?_
    refine W_exit rfl ?_
    refine W_sr ?_
    have hp := visit_perm h.map hnd hin hall
    have hpm : (vs.map (·.1)).Perm (L.map (·.id)) := (hp.map _).trans h.keys
    have hlen : (vs.map (·.1)).length = L.length := by rw [hpm.length_eq, List.length_map]
    rcases own_or hX with ⟨rfl, hn0, -, rfl⟩ | ⟨b, cap, rfl, rfl, hcap, hmax⟩
    · skip
      refine W_move rfl rfl ?_
      refine W_callp (.cons rfl .nil) Tryd.call64 rfl (T := fun _ => True) trivial (fun w0 H _ w hs => (callsIn_wide.2 (Tryd.slices_Sort_int_none none 0 w)).mono (by rintro en w2 ⟨rfl, rfl⟩; exact ⟨_, _, rfl, ⟨rfl, rfl⟩, hs⟩)) ?_
      refine W_nil ?_
      refine W_sr ?_
      refine W_move rfl rfl ?_
      refine W_assign rfl rfl ?_
      refine W_nil ?_
      refine W_ret1m (H2 := [] ++ ((bw, .cells 102 523 (whRow now sl bs bm turn)) :: (bm, .obj (mapO (Value.int .i64) l c)) :: (XS.flatten ++ H))) Tryd.results43 rfl (.nil _) (by repeat (first | with_reducible exact HSub.refl _ | refine HSub.cons (by repeat (first | exact Take.here _ | apply Take.next | apply Take.app)) ?_ | refine HSub.app (by repeat (first | with_reducible exact TakeS.here _ | apply TakeS.next | apply TakeS.app)) ?_ | exact HSub.nil _ | exact HSub.refl _ | refine HSub.drop ?_ | refine HSub.dropS ?_)) ?_
      have hl0 : L.length = 0 := by omega
      obtain rfl := List.eq_nil_of_length_eq_zero hl0
      exact ⟨[], by rw [show sortI (([] : List Tm).map (·.id)) = [] from List.mergeSort_nil]; exact .nil, rfl⟩
    · skip
      refine W_move rfl rfl ?_
      refine W_hsub (H' := (b, .cells 3 (cap * 1) ((vs.map (·.1)).map (Value.int .i64))) :: (r, .obj (iterO bm c (vs.map (·.2.2)) c)) :: ((bw, .cells 102 523 (whRow now sl bs bm turn)) :: (bm, .obj (mapO (Value.int .i64) l c)) :: (XS.flatten ++ H))) (.cons (.next (.here _)) (.refl _)) ?_
      refine W_call (.cons rfl .nil) Tryd.call64 rfl (sortI_L (by omega)) ?_
      rintro v H' ⟨rfl, rfl⟩
      refine W_nil ?_
      refine W_sr ?_
      refine W_move rfl rfl ?_
      refine W_assign rfl rfl ?_
      refine W_nil ?_
      refine W_ret1m (H2 := [(b, .cells 3 (cap * 1) ((sortI (vs.map (·.1))).map (Value.int .i64)))] ++ ((bw, .cells 102 523 (whRow now sl bs bm turn)) :: (bm, .obj (mapO (Value.int .i64) l c)) :: (XS.flatten ++ H))) Tryd.results43 rfl (.nil _) (by repeat (first | with_reducible exact HSub.refl _ | refine HSub.cons (by repeat (first | exact Take.here _ | apply Take.next | apply Take.app)) ?_ | refine HSub.app (by repeat (first | with_reducible exact TakeS.here _ | apply TakeS.next | apply TakeS.app)) ?_ | exact HSub.nil _ | exact HSub.refl _ | refine HSub.drop ?_ | refine HSub.dropS ?_)) ?_
      have hsi : sortI (vs.map (·.1)) = sortI (L.map (·.id)) := asc_int ((sortI_perm _).trans (hpm.trans (sortI_perm _).symm)) (sortI_asc (hpm.nodup_iff.2 h.nodup)) (sortI_asc h.nodup)
      have hl2 : (vs.map (·.1)).length = (sortI (vs.map (·.1))).length := (sortI_perm _).length_eq.symm
      refine ⟨_, ?_, rfl⟩
      rw [← hsi, hl2]
      exact OwnS.own (by simp) (by omega) hmax
  · skip
    refine W_extract rfl rfl rfl ?_
    refine W_nil ?_
    refine W_seq ?_
    refine W_condT rfl rfl ?_
    refine W_skip ?_
    refine W_block ?_
    refine W_sr ?_
    refine W_entry (kf := (Value.int .i64)) (l := l) (cl := c) (b := bm) (r := r) (since := c) (sl := vs.map (·.2.2)) (p := p) rfl (by repeat (first | exact List.mem_cons_self | apply List.mem_cons_of_mem | apply List.mem_append_right)) (by repeat (first | exact List.mem_cons_self | apply List.mem_cons_of_mem | apply List.mem_append_right)) hp h.map rfl ?_
    refine W_extract rfl rfl rfl ?_
    refine W_assign rfl rfl ?_
    refine W_nil ?_
    refine W_region ?_
    refine W_move rfl rfl ?_
    refine W_move rfl rfl ?_
    refine W_buildSlice (l := [(Value.int .i64) p.1]) ty35 ty3 (.cons rfl rfl rfl rfl rfl .nil) rfl rfl rfl rfl rfl rfl rfl (fun b18 => ?_)
    refine W_append (news := [(Value.int .i64) p.1]) (m := 1) (HB := XB) (H0 := (r, .obj (iterO bm c (vs.map (·.2.2) ++ [p.2.2]) c)) :: ((bw, .cells 102 523 (whRow now sl bs bm turn)) :: (bm, .obj (mapO (Value.int .i64) l c)) :: (XS.flatten ++ H))) rfl rfl ty35 ty3 rfl (by decide) hX rfl (Holds.own List.mem_cons_self) rfl (by have := visit_lt hnd hin hp hnp; rw [List.length_map]; simp only [maxLen]; omega) (by have := visit_lt hnd hin hp hnp; rw [List.length_map]; omega) (by repeat (first | with_reducible exact HSub.refl _ | refine HSub.cons (by repeat (first | exact Take.here _ | apply Take.next | apply Take.app)) ?_ | refine HSub.app (by repeat (first | with_reducible exact TakeS.here _ | apply TakeS.next | apply TakeS.app)) ?_ | exact HSub.nil _ | exact HSub.refl _ | refine HSub.drop ?_ | refine HSub.dropS ?_)) rfl (fun v' HB' hO' => ?_)
    refine W_assign rfl rfl ?_
    refine W_nil ?_
    refine W_blk ?_
    refine W_again (vs ++ [p], v', HB') ⟨by show ((vs ++ [p]).map (·.2.2)).Nodup; rw [List.map_append]; exact List.nodup_append.2 ⟨hnd, by simp, fun x hx y hy e => hnp (by obtain rfl : y = p.2.2 := (by simpa using hy); exact e ▸ hx)⟩, fun q hq => (List.mem_append.1 hq).elim (hin q) (fun h => by obtain rfl : q = p := (by simpa using h); exact hp), by show OwnS _ _ v' ((vs ++ [p]).map (·.1)).length (((vs ++ [p]).map (·.1)).map (Value.int .i64)) HB'; simp only [List.map_append, List.length_append, List.map_cons, List.map_nil, List.length_cons, List.length_nil] at hO' ⊢; exact hO'⟩ (by show l.length - (vs ++ [p]).length < l.length - vs.length; have := visit_lt hnd hin hp hnp; rw [List.length_append, List.length_singleton]; omega) (sub_cons rfl (sub_cons rfl (sub_nil _))) rfl (by simp only [List.map_append, List.map_cons, List.map_nil]; repeat (first | with_reducible exact HSub.refl _ | refine HSub.cons (by repeat (first | exact Take.here _ | apply Take.next | apply Take.app)) ?_ | refine HSub.app (by repeat (first | with_reducible exact TakeS.here _ | apply TakeS.next | apply TakeS.app)) ?_ | exact HSub.nil _ | exact HSub.refl _ | refine HSub.drop ?_ | refine HSub.dropS ?_))
theorem Ids_W {w0 : World} {H HW : Heap} {bw now turn : Nat} {L : List Tm} (hW : WheelH bw now L turn HW) :
    LCalls Tryd.prog w0 43 #[.pointer (some ⟨bw, 0, none⟩)] (HW ++ H) (fun v H' => ∃ XB, OwnS 3 1 v (sortI (L.map (·.id))).length ((sortI (L.map (·.id))).map (Value.int .i64)) XB ∧ H' = XB ++ (HW ++ H)) := by
  cases hW with
  | mk h => exact Ids_at h
set_option maxHeartbeats 1000000 in
theorem Ids_nil  : Pure Tryd.prog (fun _ => True) 43 [.pointer none] (.slice none 0 0) := by
  intro w0 H hT
  refine L_enter Tryd.func43 rfl Tryd.ntmps43 rfl rfl ?_
  refine W_sr ?_
  refine W_assign rfl rfl ?_
  refine W_nil ?_
  refine W_seq ?_
  refine W_sr ?_
  refine W_move rfl rfl ?_
  refine W_x (X_ptrNil rfl rfl ty24) (fun _ h => by cases h) rfl ?_
  refine W_nil ?_
  refine W_condT rfl rfl ?_
  refine W_sr ?_
  refine W_assign rfl rfl ?_
  refine W_nil ?_
  refine W_ret1m (H2 := H) Tryd.results43 rfl (.nil _) (by repeat (first | with_reducible exact HSub.refl _ | refine HSub.cons (by repeat (first | exact Take.here _ | apply Take.next | apply Take.app)) ?_ | refine HSub.app (by repeat (first | with_reducible exact TakeS.here _ | apply TakeS.next | apply TakeS.app)) ?_ | exact HSub.nil _ | exact HSub.refl _ | refine HSub.drop ?_ | refine HSub.dropS ?_)) ?_
  exact ⟨rfl, rfl⟩
set_option maxHeartbeats 1000000 in
theorem Del_nil {w0 : World} {H : Heap} {l : List Int} {ad : Option Addr} {cap : Nat} (hn : l.length ≤ 4611686018427387904) (hrow : Holds w0 H ad (l.map (Value.int .i64)))  : PureAt Tryd.prog w0 H 46 [.pointer none, .slice ad l.length cap] (.int .i64 0) := by
  refine L_enter Tryd.func46 rfl Tryd.ntmps46 rfl rfl ?_
  refine W_sr ?_
  refine W_assign rfl rfl ?_
  refine W_nil ?_
  refine W_sr ?_
  refine W_assign rfl rfl ?_
  refine W_nil ?_
  refine W_seq ?_
  refine W_sr ?_
  refine W_move rfl rfl ?_
  refine W_len rfl ty35 rfl rfl ?_
  refine W_move rfl rfl ?_
  refine W_nil ?_
  refine W_block ?_
  refine W_loopC (X := Nat) [(0, _), (8, _), (9, _)] (fun (i : Nat) => [(5, .int .i64 0), (10, .int .i64 (i : Int))]) (fun _ => _) (fun (i : Nat) => H) (fun (i : Nat) => i ≤ l.length) (fun (i : Nat) => l.length - i) 0 (Nat.zero_le _) (sub_cons rfl (sub_cons rfl (sub_cons rfl (sub_nil _)))) (sub_cons rfl (sub_cons rfl (sub_nil _))) rfl (by repeat (first | with_reducible exact HSub.refl _ | refine HSub.cons (by repeat (first | exact Take.here _ | apply Take.next | apply Take.app)) ?_ | refine HSub.app (by repeat (first | with_reducible exact TakeS.here _ | apply TakeS.next | apply TakeS.app)) ?_ | exact HSub.nil _ | exact HSub.refl _ | refine HSub.drop ?_ | refine HSub.dropS ?_)) ?_
  intro i hi
  simp only [List.cons_append, List.nil_append]
  refine W_sr ?_
  refine W_bin rfl rfl b_lss rfl ?_
  refine W_nil ?_
  refine W_seq ?_
  refine W_condPS (p := (i : Int) < (l.length : Int)) rfl (by simp) (fun q0 => ?_) (fun q0 => ?_)
  · skip
    refine W_skip ?_
    refine W_seq ?_
    refine W_block ?_
    refine W_sr ?_
    obtain ⟨x, hx⟩ : ∃ x, l[i]? = some x := ⟨_, List.getElem?_eq_getElem (by omega)⟩
    obtain ⟨q0, p0, rfl, hc⟩ := hrow.at (i := i) (v := .int .i64 x) (by rw [List.getElem?_map, hx]; rfl)
    refine W_indexAddr (j := i) rfl rfl ty35 ty3 rfl (by omega) rfl rfl ?_
    refine W_load (v := .int .i64 x) rfl ty3 rfl (by rw [Nat.mul_one (i)]; exact hc) rfl ?_
    refine W_assign rfl rfl ?_
    refine W_nil ?_
    refine W_sr ?_
    refine W_move rfl rfl ?_
    refine W_x (X_ptrNotNil rfl rfl ty24) (fun _ h => by cases h) rfl ?_
    refine W_move rfl rfl ?_
    refine W_gno rfl rfl rfl ?_
    refine W_gno rfl rfl rfl ?_
    refine W_gno rfl rfl rfl ?_
    first | refine W_pickt rfl rfl rfl ?_ | refine W_pickf rfl rfl rfl ?_
    refine W_nil ?_
    refine W_condF rfl rfl ?_
    refine W_skip ?_
    refine W_blk ?_
    refine W_region ?_
    refine W_bin rfl rfl (b_add (m := ((i + 1 : Nat) : Int)) (by rw [i64w (by omega)]; omega)) rfl ?_
    refine W_move rfl rfl ?_
    refine W_nil ?_
    refine W_again (i + 1) (by omega) (by omega) (sub_cons rfl (sub_cons rfl (sub_cons rfl (sub_cons rfl (sub_cons rfl (sub_nil _)))))) rfl (by repeat (first | with_reducible exact HSub.refl _ | refine HSub.cons (by repeat (first | exact Take.here _ | apply Take.next | apply Take.app)) ?_ | refine HSub.app (by repeat (first | with_reducible exact TakeS.here _ | apply TakeS.next | apply TakeS.app)) ?_ | exact HSub.nil _ | exact HSub.refl _ | refine HSub.drop ?_ | refine HSub.dropS ?_))
  · skip
    refine W_exit rfl ?_
    refine W_sr ?_
    refine W_move rfl rfl ?_
    refine W_assign rfl rfl ?_
    refine W_nil ?_
    refine W_ret1m (H2 := H) Tryd.results46 rfl (.nil _) (by repeat (first | with_reducible exact HSub.refl _ | refine HSub.cons (by repeat (first | exact Take.here _ | apply Take.next | apply Take.app)) ?_ | refine HSub.app (by repeat (first | with_reducible exact TakeS.here _ | apply TakeS.next | apply TakeS.app)) ?_ | exact HSub.nil _ | exact HSub.refl _ | refine HSub.drop ?_ | refine HSub.dropS ?_)) ?_
    exact ⟨rfl, rfl⟩
end Go.Proofs.YtknbohnoiigioaaDoor
namespace Go.Proofs.YtknbohnoiigioaaDoor
open Go Go.Sl
attribute [local irreducible] W
instance : DecidableEq Tm := fun a b => by
  cases a; cases b
  rename_i i s t i2 s2 t2
  exact if h : i = i2 ∧ s = s2 ∧ t = t2 then isTrue (by obtain ⟨rfl, rfl, rfl⟩ := h; rfl) else isFalse (fun e => h (by cases e; exact ⟨rfl, rfl, rfl⟩))
instance (a b : Tm) : Decidable (ahead a b) := inferInstanceAs (Decidable (_ ∨ _))
theorem ahead_unique : ∀ {a b : List Tm}, a.Perm b → a.Pairwise ahead → b.Pairwise ahead → a = b
  | [], b, hp, _, _ => (List.Perm.nil_eq hp)
  | x :: a, b, hp, ha, hb => by
    cases b with
    | nil => exact absurd hp.length_eq (by simp)
    | cons y b =>
      have ha' := List.pairwise_cons.1 ha
      have hb' := List.pairwise_cons.1 hb
      have hxy : x = y := by
        rcases List.mem_cons.1 (hp.mem_iff.1 List.mem_cons_self) with h | h
        · exact h
        · rcases List.mem_cons.1 (hp.mem_iff.2 List.mem_cons_self) with h' | h'
          · exact h'.symm
          · have h1 := hb'.1 x h; have h2 := ha'.1 y h'
            unfold ahead at h1 h2; omega
      subst hxy
      rw [ahead_unique (List.Perm.cons_inv hp) ha'.2 hb'.2]
theorem Gone.is {now nw : Nat} {L Li O O' : List Tm} (h : Gone now nw L Li O) (hp : O'.Perm (L.filter (fun t => decide (t.s.due ≤ nw)))) (ha : O'.Pairwise ahead) : O = O' := ahead_unique (h.perm.trans hp.symm) h.asc ha
theorem Put_e {w0 : World} {H HW : Heap} {bw now turn a : Nat} {L : List Tm} {id : Int} {e : Spot} (hW : WheelH bw now L turn HW) (hnow : now < 18446744073709551615) (ha : a ≤ 18446744073709551615) (he : placeT now a = (e, 0)) (hid : 0 ≤ id ∧ id < 256) (hnew : id ∉ L.map (·.id)) (htn : turn ≤ 4611686018427387904) :
    LCalls Tryd.prog w0 14 #[.pointer (some ⟨bw, 0, none⟩), .int .i64 id, .int .u64 ((a : Nat) : Int)] (HW ++ H) (fun v H' => ∃ HW', WheelH bw now (L ++ [⟨id, e, turn + 1⟩]) (turn + 1) HW' ∧ v = .tuple #[.agg e.v.toArray, .int .i64 0] ∧ H' = HW' ++ H) := by
  have := Put_L (w0 := w0) (H := H) hW hnow ha hid hnew htn
  unfold tmOf at this
  rw [he] at this
  exact this
set_option maxHeartbeats 1000000 in
theorem same_q {w0 : World} {H : Heap} {l r : List Int} {a1 a2 : Option Addr} {c1 c2 : Nat} (hl : Holds w0 H a1 (l.map (Value.int .i64))) (hr : Holds w0 H a2 (r.map (Value.int .i64))) (hn : l.length ≤ 4611686018427387904)  : PureAt Tryd.prog w0 H 37 [.slice a1 l.length c1, .slice a2 r.length c2] (.bool (decide (l = r))) := by
  refine L_enter Tryd.func37 rfl Tryd.ntmps37 rfl rfl ?_
  refine W_sr ?_
  refine W_assign rfl rfl ?_
  refine W_nil ?_
  refine W_seq ?_
  refine W_sr ?_
  refine W_move rfl rfl ?_
  refine W_len rfl ty35 rfl rfl ?_
  refine W_move rfl rfl ?_
  refine W_len rfl ty35 rfl rfl ?_
  refine W_bin rfl rfl b_neq rfl ?_
  refine W_nil ?_
  refine W_condPS (p := (l.length : Int) ≠ (r.length : Int)) rfl (by simp) (fun q0 => ?_) (fun q0 => ?_)
  · skip
    refine W_sr ?_
    refine W_assign rfl rfl ?_
    refine W_nil ?_
    refine W_ret1m (H2 := H) Tryd.results37 rfl (.nil _) (by repeat (first | with_reducible exact HSub.refl _ | refine HSub.cons (by repeat (first | exact Take.here _ | apply Take.next | apply Take.app)) ?_ | refine HSub.app (by repeat (first | with_reducible exact TakeS.here _ | apply TakeS.next | apply TakeS.app)) ?_ | exact HSub.nil _ | exact HSub.refl _ | refine HSub.drop ?_ | refine HSub.dropS ?_)) ?_
    exact ⟨by rw [decide_eq_false (fun e => q0 (by rw [e]))], rfl⟩
  · skip
    refine W_skip ?_
    refine W_seq ?_
    refine W_sr ?_
    refine W_assign rfl rfl ?_
    refine W_nil ?_
    refine W_block ?_
    have hlen : l.length = r.length := by omega
    refine W_loopC (X := Nat) [(0, _), (1, _)] (fun (i : Nat) => [(5, .int .i64 (i : Int))]) (fun _ => _) (fun (i : Nat) => H) (fun (i : Nat) => i ≤ l.length ∧ l.take i = r.take i) (fun (i : Nat) => l.length - i) 0 ⟨Nat.zero_le _, rfl⟩ (sub_cons rfl (sub_cons rfl (sub_nil _))) (sub_cons rfl (sub_nil _)) rfl (by repeat (first | with_reducible exact HSub.refl _ | refine HSub.cons (by repeat (first | exact Take.here _ | apply Take.next | apply Take.app)) ?_ | refine HSub.app (by repeat (first | with_reducible exact TakeS.here _ | apply TakeS.next | apply TakeS.app)) ?_ | exact HSub.nil _ | exact HSub.refl _ | refine HSub.drop ?_ | refine HSub.dropS ?_)) ?_
    rintro i ⟨hi, heq⟩
    simp only [List.cons_append, List.nil_append]
    refine W_seq ?_
    refine W_sr ?_
    refine W_move rfl rfl ?_
    refine W_move rfl rfl ?_
    refine W_len rfl ty35 rfl rfl ?_
    refine W_bin rfl rfl b_lss rfl ?_
    refine W_nil ?_
    refine W_condPS (p := (i : Int) < (l.length : Int)) rfl (by simp) (fun q1 => ?_) (fun q1 => ?_)
    · skip
      refine W_skip ?_
      refine W_seq ?_
      refine W_block ?_
      refine W_quietsr (by kernel_rfl) (by decide +kernel) ?_
      obtain ⟨x, hx⟩ : ∃ x, l[i]? = some x := ⟨_, List.getElem?_eq_getElem (by omega)⟩
      obtain ⟨q0, p0, rfl, hc⟩ := hl.at (i := i) (v := .int .i64 x) (by rw [List.getElem?_map, hx]; rfl)
      obtain ⟨y, hy⟩ : ∃ y, r[i]? = some y := ⟨_, List.getElem?_eq_getElem (by omega)⟩
      obtain ⟨q1, p1, rfl, hc'⟩ := hr.at (i := i) (v := .int .i64 y) (by rw [List.getElem?_map, hy]; rfl)
      refine WQ_x (X_move rfl) rfl ?_
      refine WQ_x (X_move rfl) rfl ?_
      refine WQ_x (X_indexAddr (j := i) rfl rfl ty35 ty3 rfl (by omega) rfl) rfl ?_
      refine WQ_x (X_load (v := .int .i64 x) rfl ty3 rfl (by rw [Nat.mul_one]; exact hc.up (by repeat (first | with_reducible exact HSub.refl _ | refine HSub.cons (by repeat (first | exact Take.here _ | apply Take.next | apply Take.app)) ?_ | refine HSub.app (by repeat (first | with_reducible exact TakeS.here _ | apply TakeS.next | apply TakeS.app)) ?_ | exact HSub.nil _ | exact HSub.refl _ | refine HSub.drop ?_ | refine HSub.dropS ?_)))) rfl ?_
      refine WQ_x (X_move rfl) rfl ?_
      refine WQ_x (X_move rfl) rfl ?_
      refine WQ_x (X_indexAddr (j := i) rfl rfl ty35 ty3 rfl (by omega) rfl) rfl ?_
      refine WQ_x (X_load (v := .int .i64 y) rfl ty3 rfl (by rw [Nat.mul_one]; exact hc'.up (by repeat (first | with_reducible exact HSub.refl _ | refine HSub.cons (by repeat (first | exact Take.here _ | apply Take.next | apply Take.app)) ?_ | refine HSub.app (by repeat (first | with_reducible exact TakeS.here _ | apply TakeS.next | apply TakeS.app)) ?_ | exact HSub.nil _ | exact HSub.refl _ | refine HSub.drop ?_ | refine HSub.dropS ?_)))) rfl ?_
      refine WQ_x (X_bin rfl rfl b_neq) rfl ?_
      refine WQ_nil ?_
      refine W_condPS (p := ¬ x = y) rfl (by simp) (fun q2 => ?_) (fun q2 => ?_)
      · skip
        refine W_sr ?_
        refine W_assign rfl rfl ?_
        refine W_nil ?_
        refine W_ret1m (H2 := H) Tryd.results37 rfl (.nil _) (by repeat (first | with_reducible exact HSub.refl _ | refine HSub.cons (by repeat (first | exact Take.here _ | apply Take.next | apply Take.app)) ?_ | refine HSub.app (by repeat (first | with_reducible exact TakeS.here _ | apply TakeS.next | apply TakeS.app)) ?_ | exact HSub.nil _ | exact HSub.refl _ | refine HSub.drop ?_ | refine HSub.dropS ?_)) ?_
        exact ⟨by rw [decide_eq_false (fun e => q2 (by rw [e, hy] at hx; exact (Option.some.inj hx).symm))], rfl⟩
      · skip
        refine W_skip ?_
        refine W_blk ?_
        refine W_region ?_
        refine W_move rfl rfl ?_
        refine W_bin rfl rfl (b_add (m := ((i + 1 : Nat) : Int)) ((i64w (by omega)).trans (by omega))) rfl ?_
        refine W_assign rfl rfl ?_
        refine W_nil ?_
        refine W_again (i + 1) ⟨by omega, by rw [takeAt hx, takeAt hy, heq, Classical.not_not.1 q2]⟩ (by omega) (sub_cons rfl (sub_cons rfl (sub_cons rfl (sub_nil _)))) rfl (by repeat (first | with_reducible exact HSub.refl _ | refine HSub.cons (by repeat (first | exact Take.here _ | apply Take.next | apply Take.app)) ?_ | refine HSub.app (by repeat (first | with_reducible exact TakeS.here _ | apply TakeS.next | apply TakeS.app)) ?_ | exact HSub.nil _ | exact HSub.refl _ | refine HSub.drop ?_ | refine HSub.dropS ?_))
    · skip
      refine W_exit rfl ?_
      refine W_sr ?_
      refine W_assign rfl rfl ?_
      refine W_nil ?_
      refine W_ret1m (H2 := H) Tryd.results37 rfl (.nil _) (by repeat (first | with_reducible exact HSub.refl _ | refine HSub.cons (by repeat (first | exact Take.here _ | apply Take.next | apply Take.app)) ?_ | refine HSub.app (by repeat (first | with_reducible exact TakeS.here _ | apply TakeS.next | apply TakeS.app)) ?_ | exact HSub.nil _ | exact HSub.refl _ | refine HSub.drop ?_ | refine HSub.dropS ?_)) ?_
      obtain rfl : i = l.length := by omega
      exact ⟨by rw [decide_eq_true (by rwa [List.take_length, hlen, List.take_length] at heq)], rfl⟩
set_option maxHeartbeats 4000000 in
theorem known_pure  : Pure Tryd.prog (Tab) 16 [] (.bool true) := by
  intro w0 H hT
  refine L_enter Tryd.func16 rfl Tryd.ntmps16 rfl rfl ?_
  refine W_sr ?_
  refine W_assign rfl rfl ?_
  refine W_nil ?_
  refine W_sr ?_
  refine W_call (.cons rfl .nil) Tryd.call13 rfl ((New_W (now := 0) (H := H)).hsub (by repeat (first | with_reducible exact HSub.refl _ | refine HSub.cons (by repeat (first | exact Take.here _ | apply Take.next | apply Take.app)) ?_ | refine HSub.app (by repeat (first | with_reducible exact TakeS.here _ | apply TakeS.next | apply TakeS.app)) ?_ | exact HSub.nil _ | exact HSub.refl _ | refine HSub.drop ?_ | refine HSub.dropS ?_))) ?_
  rintro v H' ⟨bw1, HW1, rfl, hW1, rfl⟩
  refine W_assign rfl rfl ?_
  refine W_nil ?_
  refine W_sr ?_
  refine W_move rfl rfl ?_
  refine W_call (.cons rfl (.cons rfl (.cons rfl .nil))) Tryd.call14 rfl ((Put_e (a := 100) (e := (⟨1, 13, 100, 104⟩ : Spot)) hW1 (by decide) (by decide) (by decide +kernel) (by decide) (by decide) (by decide)).hsub (by repeat (first | with_reducible exact HSub.refl _ | refine HSub.cons (by repeat (first | exact Take.here _ | apply Take.next | apply Take.app)) ?_ | refine HSub.app (by repeat (first | with_reducible exact TakeS.here _ | apply TakeS.next | apply TakeS.app)) ?_ | exact HSub.nil _ | exact HSub.refl _ | refine HSub.drop ?_ | refine HSub.dropS ?_))) ?_
  rintro v H' ⟨HW2, hW2, rfl, rfl⟩
  refine W_move rfl rfl ?_
  refine W_extract rfl rfl rfl ?_
  refine W_extract rfl rfl rfl ?_
  refine W_alloc (l := zSpot.v) ty27 rfl rfl (fun b2 => ?_)
  refine W_storeA (l' := (⟨1, 13, 100, 104⟩ : Spot).v) rfl rfl ty27 rfl rfl (b := b2) (by repeat (first | exact List.mem_cons_self | apply List.mem_cons_of_mem | apply List.mem_append_right)) (by exact Nat.le_refl 4) rfl (by repeat (first | exact Upd.head _ | apply Upd.tail | apply Upd.app)) ?_
  refine W_assign rfl rfl ?_
  refine W_nil ?_
  refine W_seq ?_
  refine W_sr ?_
  refine W_move rfl rfl ?_
  refine W_bin rfl rfl b_neq rfl ?_
  refine W_move rfl rfl ?_
  refine W_gyes rfl rfl ?_
  refine W_fieldAddr rfl fld27_0 (by decide) rfl ?_
  refine W_gyes rfl rfl ?_
  refine W_load rfl ty3 rfl (Cell.own (by repeat (first | exact List.mem_cons_self | apply List.mem_cons_of_mem | apply List.mem_append_right)) rfl) rfl ?_
  refine W_gyes rfl rfl ?_
  refine W_bin rfl rfl b_neq rfl ?_
  first | refine W_pickt rfl rfl rfl ?_ | refine W_pickf rfl rfl rfl ?_
  refine W_move rfl rfl ?_
  refine W_gyes rfl rfl ?_
  refine W_fieldAddr rfl fld27_3 (by decide) rfl ?_
  refine W_gyes rfl rfl ?_
  refine W_load rfl ty22 rfl (Cell.own (by repeat (first | exact List.mem_cons_self | apply List.mem_cons_of_mem | apply List.mem_append_right)) rfl) rfl ?_
  refine W_gyes rfl rfl ?_
  refine W_bin rfl rfl b_neq rfl ?_
  first | refine W_pickt rfl rfl rfl ?_ | refine W_pickf rfl rfl rfl ?_
  refine W_move rfl rfl ?_
  refine W_gyes rfl rfl ?_
  refine W_move rfl rfl ?_
  refine W_gyes rfl rfl ?_
  refine W_call (.cons rfl (.cons rfl .nil)) Tryd.call18 rfl ((To_L (a := 103) hW2 (by decide) (by decide) hT).hsub (by repeat (first | with_reducible exact HSub.refl _ | refine HSub.cons (by repeat (first | exact Take.here _ | apply Take.next | apply Take.app)) ?_ | refine HSub.app (by repeat (first | with_reducible exact TakeS.here _ | apply TakeS.next | apply TakeS.app)) ?_ | exact HSub.nil _ | exact HSub.refl _ | refine HSub.drop ?_ | refine HSub.dropS ?_))) ?_
  rintro v H' ⟨O3, Li3, HW3, XO3, hW3, hG3, hO3, rfl⟩
  obtain rfl : O3 = [] := hG3.is (by decide) (by decide)
  obtain rfl := hG3.left
  obtain ⟨ad3, cap3, rfl, _, _⟩ := hO3.shape
  refine W_gyes rfl rfl ?_
  refine W_len rfl ty35 rfl rfl ?_
  refine W_gyes rfl rfl ?_
  refine W_bin rfl rfl b_neq rfl ?_
  first | refine W_pickt rfl rfl rfl ?_ | refine W_pickf rfl rfl rfl ?_
  refine W_nil ?_
  refine W_condF rfl rfl ?_
  refine W_skip ?_
  refine W_sr ?_
  refine W_move rfl rfl ?_
  refine W_call (.cons rfl (.cons rfl .nil)) Tryd.call18 rfl ((To_L (a := 104) hW3 (by decide) (by decide) hT).hsub (by repeat (first | with_reducible exact HSub.refl _ | refine HSub.cons (by repeat (first | exact Take.here _ | apply Take.next | apply Take.app)) ?_ | refine HSub.app (by repeat (first | with_reducible exact TakeS.here _ | apply TakeS.next | apply TakeS.app)) ?_ | exact HSub.nil _ | exact HSub.refl _ | refine HSub.drop ?_ | refine HSub.dropS ?_))) ?_
  rintro v H' ⟨O4, Li4, HW4, XO4, hW4, hG4, hO4, rfl⟩
  obtain rfl : O4 = [(⟨3, (⟨1, 13, 100, 104⟩ : Spot), 1⟩ : Tm)] := hG4.is (by decide) (by decide)
  obtain rfl := hG4.left
  obtain ⟨ad4, cap4, rfl, _, _⟩ := hO4.shape
  obtain ⟨b4, cp4, hv4, rfl, _, _⟩ := OwnS.is hO4 (by decide)
  cases hv4
  refine W_hsub (H' := (b4, .cells 3 (cap4 * 1) [.int .i64 3]) :: H) (HSub.cons (.here _) (by repeat (first | with_reducible exact HSub.refl _ | refine HSub.cons (by repeat (first | exact Take.here _ | apply Take.next | apply Take.app)) ?_ | refine HSub.app (by repeat (first | with_reducible exact TakeS.here _ | apply TakeS.next | apply TakeS.app)) ?_ | exact HSub.nil _ | exact HSub.refl _ | refine HSub.drop ?_ | refine HSub.dropS ?_))) ?_
  refine W_assign rfl rfl ?_
  refine W_nil ?_
  refine W_sr ?_
  refine W_call (.cons rfl .nil) Tryd.call13 rfl ((New_W (now := 0) (H := (b4, .cells 3 (cap4 * 1) [.int .i64 3]) :: H)).hsub (by repeat (first | with_reducible exact HSub.refl _ | refine HSub.cons (by repeat (first | exact Take.here _ | apply Take.next | apply Take.app)) ?_ | refine HSub.app (by repeat (first | with_reducible exact TakeS.here _ | apply TakeS.next | apply TakeS.app)) ?_ | exact HSub.nil _ | exact HSub.refl _ | refine HSub.drop ?_ | refine HSub.dropS ?_))) ?_
  rintro v H' ⟨bw5, HW5, rfl, hW5, rfl⟩
  refine W_assign rfl rfl ?_
  refine W_nil ?_
  refine W_sr ?_
  refine W_move rfl rfl ?_
  refine W_call (.cons rfl (.cons rfl (.cons rfl .nil))) Tryd.call14 rfl ((Put_e (a := 9) (e := (⟨0, 9, 9, 9⟩ : Spot)) hW5 (by decide) (by decide) (by decide +kernel) (by decide) (by decide) (by decide)).hsub (by repeat (first | with_reducible exact HSub.refl _ | refine HSub.cons (by repeat (first | exact Take.here _ | apply Take.next | apply Take.app)) ?_ | refine HSub.app (by repeat (first | with_reducible exact TakeS.here _ | apply TakeS.next | apply TakeS.app)) ?_ | exact HSub.nil _ | exact HSub.refl _ | refine HSub.drop ?_ | refine HSub.dropS ?_))) ?_
  rintro v H' ⟨HW6, hW6, rfl, rfl⟩
  refine W_nil ?_
  refine W_sr ?_
  refine W_move rfl rfl ?_
  refine W_call (.cons rfl (.cons rfl (.cons rfl .nil))) Tryd.call14 rfl ((Put_e (a := 5) (e := (⟨0, 5, 5, 5⟩ : Spot)) hW6 (by decide) (by decide) (by decide +kernel) (by decide) (by decide) (by decide)).hsub (by repeat (first | with_reducible exact HSub.refl _ | refine HSub.cons (by repeat (first | exact Take.here _ | apply Take.next | apply Take.app)) ?_ | refine HSub.app (by repeat (first | with_reducible exact TakeS.here _ | apply TakeS.next | apply TakeS.app)) ?_ | exact HSub.nil _ | exact HSub.refl _ | refine HSub.drop ?_ | refine HSub.dropS ?_))) ?_
  rintro v H' ⟨HW7, hW7, rfl, rfl⟩
  refine W_nil ?_
  refine W_sr ?_
  refine W_move rfl rfl ?_
  refine W_call (.cons rfl (.cons rfl (.cons rfl .nil))) Tryd.call14 rfl ((Put_e (a := 9) (e := (⟨0, 9, 9, 9⟩ : Spot)) hW7 (by decide) (by decide) (by decide +kernel) (by decide) (by decide) (by decide)).hsub (by repeat (first | with_reducible exact HSub.refl _ | refine HSub.cons (by repeat (first | exact Take.here _ | apply Take.next | apply Take.app)) ?_ | refine HSub.app (by repeat (first | with_reducible exact TakeS.here _ | apply TakeS.next | apply TakeS.app)) ?_ | exact HSub.nil _ | exact HSub.refl _ | refine HSub.drop ?_ | refine HSub.dropS ?_))) ?_
  rintro v H' ⟨HW8, hW8, rfl, rfl⟩
  refine W_nil ?_
  refine W_sr ?_
  refine W_move rfl rfl ?_
  refine W_len rfl ty35 rfl rfl ?_
  refine W_bin rfl rfl b_eql rfl ?_
  refine W_move rfl rfl ?_
  refine W_gyes rfl rfl ?_
  refine W_move rfl rfl ?_
  refine W_gyes rfl rfl ?_
  refine W_indexAddr (j := 0) (len := 1) rfl rfl ty35 ty3 rfl (by decide) rfl rfl ?_
  refine W_gyes rfl rfl ?_
  refine W_load rfl ty3 rfl (Cell.own (by repeat (first | exact List.mem_cons_self | apply List.mem_cons_of_mem | apply List.mem_append_right)) rfl) rfl ?_
  refine W_gyes rfl rfl ?_
  refine W_bin rfl rfl b_eql rfl ?_
  first | refine W_pickt rfl rfl rfl ?_ | refine W_pickf rfl rfl rfl ?_
  refine W_move rfl rfl ?_
  refine W_gyes rfl rfl ?_
  refine W_move rfl rfl ?_
  refine W_gyes rfl rfl ?_
  refine W_call (.cons rfl (.cons rfl .nil)) Tryd.call18 rfl ((To_L (a := 20) hW8 (by decide) (by decide) hT).hsub (by repeat (first | with_reducible exact HSub.refl _ | refine HSub.cons (by repeat (first | exact Take.here _ | apply Take.next | apply Take.app)) ?_ | refine HSub.app (by repeat (first | with_reducible exact TakeS.here _ | apply TakeS.next | apply TakeS.app)) ?_ | exact HSub.nil _ | exact HSub.refl _ | refine HSub.drop ?_ | refine HSub.dropS ?_))) ?_
  rintro v H' ⟨O9, Li9, HW9, XO9, hW9, hG9, hO9, rfl⟩
  obtain rfl : O9 = [(⟨2, (⟨0, 5, 5, 5⟩ : Spot), 2⟩ : Tm), (⟨1, (⟨0, 9, 9, 9⟩ : Spot), 1⟩ : Tm), (⟨3, (⟨0, 9, 9, 9⟩ : Spot), 3⟩ : Tm)] := hG9.is (by decide) (by decide)
  obtain rfl := hG9.left
  obtain ⟨ad9, cap9, rfl, _, _⟩ := hO9.shape
  refine W_gyes rfl rfl ?_
  refine W_buildSlice (l := ([2, 1, 3] : List Int).map (Value.int .i64)) ty35 ty3 (.cons rfl rfl rfl rfl rfl (.cons rfl rfl rfl rfl rfl (.cons rfl rfl rfl rfl rfl .nil))) rfl rfl rfl rfl rfl rfl rfl (fun b51 => ?_)
  refine W_gyes rfl rfl ?_
  refine W_callq (.cons rfl (.cons rfl .nil)) Tryd.call37 rfl (same_q (l := [2, 1, 3]) (r := [2, 1, 3]) (OwnS.holds hO9 (fun p hp => (by repeat (first | exact List.mem_append_left _ hp | exact List.mem_cons_self | apply List.mem_cons_of_mem | apply List.mem_append_right)))) (Holds.own (b := b51) (by repeat (first | exact List.mem_cons_self | apply List.mem_cons_of_mem | apply List.mem_append_right))) (by decide)) ?_
  first | refine W_pickt rfl rfl rfl ?_ | refine W_pickf rfl rfl rfl ?_
  refine W_assign rfl rfl ?_
  refine W_nil ?_
  refine W_ret1m (H2 := H) Tryd.results16 rfl (.nil _) (by repeat (first | with_reducible exact HSub.refl _ | refine HSub.cons (by repeat (first | exact Take.here _ | apply Take.next | apply Take.app)) ?_ | refine HSub.app (by repeat (first | with_reducible exact TakeS.here _ | apply TakeS.next | apply TakeS.app)) ?_ | exact HSub.nil _ | exact HSub.refl _ | refine HSub.drop ?_ | refine HSub.dropS ?_)) ?_
  exact ⟨rfl, rfl⟩
end Go.Proofs.YtknbohnoiigioaaDoor
namespace Go.Proofs.YtknbohnoiigioaaDoor
open Go Go.Sl
attribute [local irreducible] W
set_option maxHeartbeats 4000000 in
theorem wheelNil_pure (id at_ : Int) : Pure Tryd.prog (Tab) 12 [.int .i64 id, .int .u64 at_] (.bool true) := by
  intro w0 H hT
  refine L_enter Tryd.func12 rfl Tryd.ntmps12 rfl rfl ?_
  refine W_sr ?_
  refine W_assign rfl rfl ?_
  refine W_nil ?_
  refine W_sr ?_
  refine W_assign rfl rfl ?_
  refine W_nil ?_
  refine W_sr ?_
  refine W_move rfl rfl ?_
  refine W_move rfl rfl ?_
  refine W_move rfl rfl ?_
  refine W_callp (.cons rfl (.cons rfl (.cons rfl .nil))) Tryd.call14 rfl (T := fun _ => True) trivial (Put_nil ) ?_
  refine W_move rfl rfl ?_
  refine W_extract rfl rfl rfl ?_
  refine W_extract rfl rfl rfl ?_
  refine W_alloc (l := zSpot.v) ty27 rfl rfl (fun b6 => ?_)
  refine W_storeA (l' := zSpot.v) rfl rfl ty27 rfl rfl (b := b6) (by repeat (first | exact List.mem_cons_self | apply List.mem_cons_of_mem | apply List.mem_append_right)) (by exact Nat.le_refl 4) rfl (by repeat (first | exact Upd.head _ | apply Upd.tail | apply Upd.app)) ?_
  refine W_assign rfl rfl ?_
  refine W_nil ?_
  refine W_sr ?_
  refine W_move rfl rfl ?_
  refine W_callp (.cons rfl .nil) Tryd.call15 rfl (T := fun _ => True) trivial (Next_nil ) ?_
  refine W_move rfl rfl ?_
  refine W_extract rfl rfl rfl ?_
  refine W_extract rfl rfl rfl ?_
  refine W_assign rfl rfl ?_
  refine W_assign rfl rfl ?_
  refine W_nil ?_
  refine W_sr ?_
  refine W_move rfl rfl ?_
  refine W_move rfl rfl ?_
  refine W_callp (.cons rfl (.cons rfl .nil)) Tryd.call20 rfl (T := fun _ => True) trivial (Find_nil ) ?_
  refine W_move rfl rfl ?_
  refine W_extract rfl rfl rfl ?_
  refine W_extract rfl rfl rfl ?_
  refine W_alloc (l := zSpot.v) ty27 rfl rfl (fun b10 => ?_)
  refine W_storeA (l' := zSpot.v) rfl rfl ty27 rfl rfl (b := b10) (by repeat (first | exact List.mem_cons_self | apply List.mem_cons_of_mem | apply List.mem_append_right)) (by exact Nat.le_refl 4) rfl (by repeat (first | exact Upd.head _ | apply Upd.tail | apply Upd.app)) ?_
  refine W_assign rfl rfl ?_
  refine W_nil ?_
  refine W_sr ?_
  refine W_callp .nil Tryd.call16 rfl hT known_pure ?_
  refine W_move rfl rfl ?_
  refine W_gyes rfl rfl ?_
  refine W_move rfl rfl ?_
  refine W_gyes rfl rfl ?_
  refine W_bin rfl rfl b_eql rfl ?_
  first | refine W_pickt rfl rfl rfl ?_ | refine W_pickf rfl rfl rfl ?_
  refine W_move rfl rfl ?_
  refine W_gyes rfl rfl ?_
  refine W_move rfl rfl ?_
  refine W_gyes rfl rfl ?_
  refine W_move rfl rfl ?_
  refine W_gyes rfl rfl ?_
  refine W_buildSlice (l := [.int .i64 id]) ty35 ty3 (.cons rfl rfl rfl rfl rfl .nil) rfl rfl rfl rfl rfl rfl rfl (fun b38 => ?_)
  refine W_gyes rfl rfl ?_
  refine W_callq (.cons rfl (.cons rfl .nil)) Tryd.call46 rfl (Del_nil (l := [id]) (show 1 ≤ 4611686018427387904 by decide) (Holds.own (b := b38) (by repeat (first | exact List.mem_cons_self | apply List.mem_cons_of_mem | apply List.mem_append_right)))) ?_
  refine W_gyes rfl rfl ?_
  refine W_bin rfl rfl b_eql rfl ?_
  first | refine W_pickt rfl rfl rfl ?_ | refine W_pickf rfl rfl rfl ?_
  refine W_move rfl rfl ?_
  refine W_gyes rfl rfl ?_
  refine W_move rfl rfl ?_
  refine W_gyes rfl rfl ?_
  refine W_move rfl rfl ?_
  refine W_gyes rfl rfl ?_
  refine W_callp (.cons rfl (.cons rfl .nil)) Tryd.call18 rfl (T := fun _ => True) trivial (To_nilp ) ?_
  refine W_gyes rfl rfl ?_
  refine W_len rfl ty35 rfl rfl ?_
  refine W_gyes rfl rfl ?_
  refine W_bin rfl rfl b_eql rfl ?_
  first | refine W_pickt rfl rfl rfl ?_ | refine W_pickf rfl rfl rfl ?_
  refine W_move rfl rfl ?_
  refine W_gyes rfl rfl ?_
  refine W_move rfl rfl ?_
  refine W_gyes rfl rfl ?_
  refine W_bin rfl rfl b_eql rfl ?_
  first | refine W_pickt rfl rfl rfl ?_ | refine W_pickf rfl rfl rfl ?_
  refine W_move rfl rfl ?_
  refine W_gyes rfl rfl ?_
  refine W_move rfl rfl ?_
  refine W_gyes rfl rfl ?_
  refine W_not rfl rfl ?_
  first | refine W_pickt rfl rfl rfl ?_ | refine W_pickf rfl rfl rfl ?_
  refine W_move rfl rfl ?_
  refine W_gyes rfl rfl ?_
  refine W_move rfl rfl ?_
  refine W_gyes rfl rfl ?_
  refine W_not rfl rfl ?_
  first | refine W_pickt rfl rfl rfl ?_ | refine W_pickf rfl rfl rfl ?_
  refine W_move rfl rfl ?_
  refine W_gyes rfl rfl ?_
  refine W_move rfl rfl ?_
  refine W_gyes rfl rfl ?_
  refine W_callp (.cons rfl .nil) Tryd.call43 rfl (T := fun _ => True) trivial (Ids_nil ) ?_
  refine W_gyes rfl rfl ?_
  refine W_len rfl ty35 rfl rfl ?_
  refine W_gyes rfl rfl ?_
  refine W_bin rfl rfl b_eql rfl ?_
  first | refine W_pickt rfl rfl rfl ?_ | refine W_pickf rfl rfl rfl ?_
  refine W_move rfl rfl ?_
  refine W_gyes rfl rfl ?_
  refine W_move rfl rfl ?_
  refine W_gyes rfl rfl ?_
  refine W_callp (.cons rfl .nil) Tryd.call19 rfl (T := fun _ => True) trivial (Now_nil ) ?_
  refine W_gyes rfl rfl ?_
  refine W_bin rfl rfl b_eql rfl ?_
  first | refine W_pickt rfl rfl rfl ?_ | refine W_pickf rfl rfl rfl ?_
  refine W_move rfl rfl ?_
  refine W_gyes rfl rfl ?_
  refine W_move rfl rfl ?_
  refine W_gyes rfl rfl ?_
  refine W_callp (.cons rfl .nil) Tryd.call17 rfl (T := fun _ => True) trivial (Len_nil ) ?_
  refine W_gyes rfl rfl ?_
  refine W_bin rfl rfl b_eql rfl ?_
  first | refine W_pickt rfl rfl rfl ?_ | refine W_pickf rfl rfl rfl ?_
  refine W_assign rfl rfl ?_
  refine W_nil ?_
  refine W_ret1m (H2 := H) Tryd.results12 rfl (.nil _) (by repeat (first | with_reducible exact HSub.refl _ | refine HSub.cons (by repeat (first | exact Take.here _ | apply Take.next | apply Take.app)) ?_ | refine HSub.app (by repeat (first | with_reducible exact TakeS.here _ | apply TakeS.next | apply TakeS.app)) ?_ | exact HSub.nil _ | exact HSub.refl _ | refine HSub.drop ?_ | refine HSub.dropS ?_)) ?_
  exact ⟨rfl, rfl⟩
end Go.Proofs.YtknbohnoiigioaaDoor
