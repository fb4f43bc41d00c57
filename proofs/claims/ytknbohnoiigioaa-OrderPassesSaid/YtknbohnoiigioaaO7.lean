/-
  Own work: contracts of functions that the statement reaches, and plain facts on what they compute; each theorem says its conditions.
-/
import Derived.Test.YtknbohnoiigioaaO6
set_option linter.all false
set_option linter.unusedSimpArgs false
set_option linter.unusedVariables false
namespace Go.Proofs.Ytknbohnoiigioaa
open Go Go.Sl
attribute [local irreducible] W

set_option maxHeartbeats 1000000 in
theorem seqI_iter {w0 : World} {H HB : Heap} {lp bl cap : Nat} {ad : Option Addr} {q : List Int} (J : Nat → Heap → Prop) (S : Heap → Prop) (hq : q.length ≤ 4611686018427387904) (hrow : Holds w0 ((bl, .cells 22 1 [.slice ad q.length cap]) :: (HB ++ [])) ad (q.map (Value.int .i64)))
    (hround : ∀ i z Hi, q[i]? = some z → J i Hi → RoundC Try.prog w0 lp #[(Value.int .i64) z] ((bl, .cells 22 1 [.slice ad q.length cap]) :: (HB ++ Hi)) (fun v H' => ∃ Hi', HSub H' ((bl, .cells 22 1 [.slice ad q.length cap]) :: (HB ++ Hi')) ∧ (v = .bool true ∧ J (i + 1) Hi' ∨ v = .bool false ∧ S Hi'))) (hJ : J 0 H) :
    LCalls Try.prog w0 33 #[.func (.yield lp) #[] #[], .pointer (some ⟨bl, 0, none⟩)] ((bl, .cells 22 1 [.slice ad q.length cap]) :: (HB ++ H)) (fun _ H' => ∃ Hi', HSub H' ((bl, .cells 22 1 [.slice ad q.length cap]) :: (HB ++ Hi')) ∧ (J q.length Hi' ∨ S Hi')) := by
  refine L_enter (l := [.func (.yield lp) #[] #[], .pointer (some ⟨bl, 0, none⟩)]) Try.func33 rfl Try.ntmps33 rfl rfl ?_
  refine W_sr ?_
  refine W_load (v := .slice ad q.length cap) rfl ty22 rfl (Cell.own (b := bl) (by repeat (first | exact List.mem_cons_self | apply List.mem_cons_of_mem | apply List.mem_append_right)) rfl) rfl ?_
  refine W_len rfl ty22 rfl rfl ?_
  refine W_move rfl rfl ?_
  refine W_nil ?_
  refine W_block ?_
  refine W_loopC (X := (Nat × Heap)) [(0, _), (5, _), (6, _)] (fun (x : (Nat × Heap)) => [(7, .int .i64 (x.1 : Int))]) (fun _ => _) (fun (x : (Nat × Heap)) => (bl, .cells 22 1 [.slice ad q.length cap]) :: (HB ++ x.2)) (fun (x : (Nat × Heap)) => x.1 ≤ q.length ∧ J x.1 x.2) (fun (x : (Nat × Heap)) => q.length - x.1) (0, H) ⟨Nat.zero_le _, hJ⟩ (sub_cons rfl (sub_cons rfl (sub_cons rfl (sub_nil _)))) (sub_cons rfl (sub_nil _)) rfl (HSub.refl _) ?_
  rintro ⟨i, Hi⟩ ⟨hi, hJi⟩
  dsimp only at hi hJi ⊢
  simp only [List.cons_append, List.nil_append]
  refine W_sr ?_
  refine W_bin rfl rfl b_lss rfl ?_
  refine W_nil ?_
  refine W_seq ?_
  refine W_condPS (p := (i : Int) < (q.length : Int)) rfl (by simp) (fun c0 => ?_) (fun c0 => ?_)
  · skip
    refine W_skip ?_
    refine W_seq ?_
    refine W_block ?_
    refine W_sr ?_
    obtain ⟨z, hz⟩ : ∃ z, q[i]? = some z := ⟨_, List.getElem?_eq_getElem (by omega)⟩
    obtain ⟨q0, p0, rfl, hcz⟩ := hrow.at (i := i) (v := (Value.int .i64) z) (by rw [List.getElem?_map, hz]; rfl)
    refine W_indexAddr (j := i) rfl rfl ty22 ty3 rfl (by omega) rfl rfl ?_
    refine W_load (v := (Value.int .i64) z) rfl ty3 rfl (by rw [Nat.mul_one]; exact hcz.up (.cons (.here _) (.app (.here _) (.nil _)))) rfl ?_
    refine W_assign rfl rfl ?_
    refine W_nil ?_
    refine W_sr ?_
    refine W_move rfl rfl ?_
    refine W_move rfl rfl ?_
    refine W_yield rfl (.cons rfl .nil) rfl (hround i z Hi hz hJi) ?_
    rintro v H' ⟨Hi', hsub, ⟨rfl, hJ'⟩ | ⟨rfl, hS'⟩⟩
    · skip
      refine W_hsub hsub ?_
      refine W_not rfl rfl ?_
      refine W_nil ?_
      refine W_condF rfl rfl ?_
      refine W_skip ?_
      refine W_blk ?_
      refine W_region ?_
      refine W_bin rfl rfl (b_add (m := ((i + 1 : Nat) : Int)) ((i64w (by omega)).trans (by omega))) rfl ?_
      refine W_move rfl rfl ?_
      refine W_nil ?_
      refine W_again (i + 1, Hi') ⟨by show i + 1 ≤ q.length; omega, hJ'⟩ (by show q.length - (i + 1) < q.length - i; omega) (sub_cons rfl (sub_cons rfl (sub_cons rfl (sub_cons rfl (sub_nil _))))) rfl (HSub.refl _)
    · skip
      refine W_hsub hsub ?_
      refine W_not rfl rfl ?_
      refine W_nil ?_
      refine W_condT rfl rfl ?_
      refine W_ret0m Try.results33 (.nil _) (.refl _) ?_
      exact ⟨Hi', .refl _, .inr hS'⟩
  · skip
    refine W_exit rfl ?_
    refine W_end0m Try.results33 (.nil _) (.refl _) ?_
    obtain rfl : i = q.length := by omega
    exact ⟨Hi, .refl _, .inl hJi⟩

def firstI (q : List Int) : Value := match q[0]? with
  | some z => .tuple #[(Value.int .i64) z, .bool true]
  | none => .tuple #[(.int .i64 0), .bool false]

set_option maxHeartbeats 2000000 in
theorem firstI_L {w0 : World} {H HB : Heap} {bl cap : Nat} {ad : Option Addr} {q : List Int} (hq : q.length ≤ 4611686018427387904) (hrow : Holds w0 ((bl, .cells 22 1 [.slice ad q.length cap]) :: (HB ++ [])) ad (q.map (Value.int .i64))) :
    LCalls Try.prog w0 28 #[.func (.func 33) #[] #[.pointer (some ⟨bl, 0, none⟩)]] ((bl, .cells 22 1 [.slice ad q.length cap]) :: (HB ++ H)) (fun v H' => v = firstI q ∧ H' = (bl, .cells 22 1 [.slice ad q.length cap]) :: (HB ++ H)) := by
  refine L_enter (l := [.func (.func 33) #[] #[.pointer (some ⟨bl, 0, none⟩)]]) Try.func28 rfl Try.ntmps28 rfl rfl ?_
  refine W_sr ?_
  refine W_alloc ty3 rfl rfl (fun b2 => ?_)
  refine W_alloc ty4 rfl rfl (fun b3 => ?_)
  refine W_nil ?_
  refine W_seq ?_
  refine W_sr ?_
  refine W_move rfl rfl ?_
  refine W_nil ?_
  refine W_block ?_
  refine W_rangeFunc rfl Try.call33 ?_
  intro lp D r hst hpd hps hasg hbody hA
  have hr := loop_ready hst hpd
  show LCalls _ _ _ #[_, _] _ _
  refine ((seqI_iter (HB := HB) (bl := bl) (ad := ad) (cap := cap) (q := q) (H := (lp, .obj (.loop r)) :: (D, .obj (.deferred (some []))) :: (b3, .cells 4 1 [.bool false]) :: (b2, .cells 3 1 [(.int .i64 0)]) :: H) (fun i Hi => i = 0 ∧ Hi = (lp, .obj (.loop r)) :: (D, .obj (.deferred (some []))) :: (b3, .cells 4 1 [.bool false]) :: (b2, .cells 3 1 [(.int .i64 0)]) :: H) (fun Hi => ∃ z, q[0]? = some z ∧ Hi = (lp, .obj (.loop (Loop.at r .done (some .ret)))) :: (D, .obj (.deferred (some []))) :: (b3, .cells 4 1 [.bool true]) :: (b2, .cells 3 1 [(Value.int .i64) z]) :: H) hq hrow ?_ ⟨rfl, rfl⟩).hsub (by repeat (first | with_reducible exact HSub.refl _ | refine HSub.cons (by repeat (first | exact Take.here _ | apply Take.next | apply Take.app)) ?_ | refine HSub.app (by repeat (first | with_reducible exact TakeS.here _ | apply TakeS.next | apply TakeS.app)) ?_ | exact HSub.nil _ | exact HSub.refl _ | refine HSub.drop ?_ | refine HSub.dropS ?_))).mono ?_
  · intro i z Hi hz hJ
    obtain ⟨rfl, rfl⟩ := hJ
    refine round_intro hst hpd hA hps rfl hasg rfl rfl rfl (by repeat (first | exact Take.here _ | apply Take.next | apply Take.app)) ?_
    refine W_region ?_
    refine W_assign rfl rfl ?_
    refine W_nil ?_
    refine W_begin hst hpd (by repeat (first | exact Take.here _ | apply Take.next | apply Take.app)) hbody ?_
    refine W_block ?_
    refine W_sr ?_
    refine W_move rfl rfl ?_
    refine W_store (l' := [(Value.int .i64) z]) rfl rfl ty3 rfl rfl (b := b2) (by repeat (first | exact List.mem_cons_self | apply List.mem_cons_of_mem | apply List.mem_append_right)) rfl rfl (by repeat (first | exact Upd.head _ | apply Upd.tail | apply Upd.app)) ?_
    refine W_store (l' := [.bool true]) rfl rfl ty4 rfl rfl (b := b3) (by repeat (first | exact List.mem_cons_self | apply List.mem_cons_of_mem | apply List.mem_append_right)) rfl rfl (by repeat (first | exact Upd.head _ | apply Upd.tail | apply Upd.app)) ?_
    refine W_nil ?_
    refine W_retround (by repeat (first | exact Take.here _ | apply Take.next | apply Take.app)) ?_
    exact ⟨(lp, .obj (.loop (Loop.at r .done (some .ret)))) :: (D, .obj (.deferred (some []))) :: (b3, .cells 4 1 [.bool true]) :: (b2, .cells 3 1 [(Value.int .i64) z]) :: H, (by repeat (first | with_reducible exact HSub.refl _ | refine HSub.cons (by repeat (first | exact Take.here _ | apply Take.next | apply Take.app)) ?_ | refine HSub.app (by repeat (first | with_reducible exact TakeS.here _ | apply TakeS.next | apply TakeS.app)) ?_ | exact HSub.nil _ | exact HSub.refl _ | refine HSub.drop ?_ | refine HSub.dropS ?_)), .inr ⟨rfl, z, hz, rfl⟩⟩
    skip
  · intro _ H' hp
    obtain ⟨Hi', hs, hJS⟩ := hp
    rcases hJS with ⟨hq0, rfl⟩ | ⟨z, hz, rfl⟩
    case inr =>
      refine ⟨.done, some .ret, (bl, .cells 22 1 [.slice ad q.length cap]) :: (HB ++ ((D, .obj (.deferred (some []))) :: (b3, .cells 4 1 [.bool true]) :: (b2, .cells 3 1 [(Value.int .i64) z]) :: H)), hs.trans (by repeat (first | with_reducible exact HSub.refl _ | refine HSub.cons (by repeat (first | exact Take.here _ | apply Take.next | apply Take.app)) ?_ | refine HSub.app (by repeat (first | with_reducible exact TakeS.here _ | apply TakeS.next | apply TakeS.app)) ?_ | exact HSub.nil _ | exact HSub.refl _ | refine HSub.drop ?_ | refine HSub.dropS ?_)), by decide, ?_⟩
      show W _ _ _ _ _ _ _ _ _
      refine W_ret2G (H2 := (bl, .cells 22 1 [.slice ad q.length cap]) :: (HB ++ H)) Try.results28 (.cons (by repeat (first | exact Take.here _ | apply Take.next | apply Take.app)) (.nil _)) (.one rfl ty3 rfl (Cell.own (b := b2) (by repeat (first | exact List.mem_cons_self | apply List.mem_cons_of_mem | apply List.mem_append_right)) rfl)) (.one rfl ty4 rfl (Cell.own (b := b3) (by repeat (first | exact List.mem_cons_self | apply List.mem_cons_of_mem | apply List.mem_append_right)) rfl)) (by repeat (first | with_reducible exact HSub.refl _ | refine HSub.cons (by repeat (first | exact Take.here _ | apply Take.next | apply Take.app)) ?_ | refine HSub.app (by repeat (first | with_reducible exact TakeS.here _ | apply TakeS.next | apply TakeS.app)) ?_ | exact HSub.nil _ | exact HSub.refl _ | refine HSub.drop ?_ | refine HSub.dropS ?_)) ?_
      exact ⟨by unfold firstI; rw [hz], rfl⟩
    refine ⟨.ready, none, (bl, .cells 22 1 [.slice ad q.length cap]) :: (HB ++ ((D, .obj (.deferred (some []))) :: (b3, .cells 4 1 [.bool false]) :: (b2, .cells 3 1 [(.int .i64 0)]) :: H)), by rw [hr]; exact hs.trans (by repeat (first | with_reducible exact HSub.refl _ | refine HSub.cons (by repeat (first | exact Take.here _ | apply Take.next | apply Take.app)) ?_ | refine HSub.app (by repeat (first | with_reducible exact TakeS.here _ | apply TakeS.next | apply TakeS.app)) ?_ | exact HSub.nil _ | exact HSub.refl _ | refine HSub.drop ?_ | refine HSub.dropS ?_)), by decide, ?_⟩
    show W _ _ _ _ _ _ _ _ _
    refine W_blk ?_
    refine W_sr ?_
    refine W_assign rfl rfl ?_
    refine W_nil ?_
    refine W_sr ?_
    refine W_move rfl rfl ?_
    refine W_store (l' := [(.int .i64 0)]) rfl rfl ty3 rfl rfl (b := b2) (by repeat (first | exact List.mem_cons_self | apply List.mem_cons_of_mem | apply List.mem_append_right)) rfl rfl (by repeat (first | exact Upd.head _ | apply Upd.tail | apply Upd.app)) ?_
    refine W_store (l' := [.bool false]) rfl rfl ty4 rfl rfl (b := b3) (by repeat (first | exact List.mem_cons_self | apply List.mem_cons_of_mem | apply List.mem_append_right)) rfl rfl (by repeat (first | exact Upd.head _ | apply Upd.tail | apply Upd.app)) ?_
    refine W_nil ?_
    refine W_ret2G (H2 := (bl, .cells 22 1 [.slice ad q.length cap]) :: (HB ++ H)) Try.results28 (.cons (by repeat (first | exact Take.here _ | apply Take.next | apply Take.app)) (.nil _)) (.one rfl ty3 rfl (Cell.own (b := b2) (by repeat (first | exact List.mem_cons_self | apply List.mem_cons_of_mem | apply List.mem_append_right)) rfl)) (.one rfl ty4 rfl (Cell.own (b := b3) (by repeat (first | exact List.mem_cons_self | apply List.mem_cons_of_mem | apply List.mem_append_right)) rfl)) (by repeat (first | with_reducible exact HSub.refl _ | refine HSub.cons (by repeat (first | exact Take.here _ | apply Take.next | apply Take.app)) ?_ | refine HSub.app (by repeat (first | with_reducible exact TakeS.here _ | apply TakeS.next | apply TakeS.app)) ?_ | exact HSub.nil _ | exact HSub.refl _ | refine HSub.drop ?_ | refine HSub.dropS ?_)) ?_
    have hn : q = [] := List.eq_nil_of_length_eq_zero hq0
    subst hn
    exact ⟨rfl, rfl⟩

set_option maxHeartbeats 1000000 in
theorem seqS_iter {w0 : World} {H HB : Heap} {lp bl cap : Nat} {ad : Option Addr} {q : List ByteArray} (J : Nat → Heap → Prop) (S : Heap → Prop) (hq : q.length ≤ 4611686018427387904) (hrow : Holds w0 ((bl, .cells 35 1 [.slice ad q.length cap]) :: (HB ++ [])) ad (q.map Value.string))
    (hround : ∀ i z Hi, q[i]? = some z → J i Hi → RoundC Try.prog w0 lp #[Value.string z] ((bl, .cells 35 1 [.slice ad q.length cap]) :: (HB ++ Hi)) (fun v H' => ∃ Hi', HSub H' ((bl, .cells 35 1 [.slice ad q.length cap]) :: (HB ++ Hi')) ∧ (v = .bool true ∧ J (i + 1) Hi' ∨ v = .bool false ∧ S Hi'))) (hJ : J 0 H) :
    LCalls Try.prog w0 37 #[.func (.yield lp) #[] #[], .pointer (some ⟨bl, 0, none⟩)] ((bl, .cells 35 1 [.slice ad q.length cap]) :: (HB ++ H)) (fun _ H' => ∃ Hi', HSub H' ((bl, .cells 35 1 [.slice ad q.length cap]) :: (HB ++ Hi')) ∧ (J q.length Hi' ∨ S Hi')) := by
  refine L_enter (l := [.func (.yield lp) #[] #[], .pointer (some ⟨bl, 0, none⟩)]) Try.func37 rfl Try.ntmps37 rfl rfl ?_
  refine W_sr ?_
  refine W_load (v := .slice ad q.length cap) rfl ty35 rfl (Cell.own (b := bl) (by repeat (first | exact List.mem_cons_self | apply List.mem_cons_of_mem | apply List.mem_append_right)) rfl) rfl ?_
  refine W_len rfl ty35 rfl rfl ?_
  refine W_move rfl rfl ?_
  refine W_nil ?_
  refine W_block ?_
  refine W_loopC (X := (Nat × Heap)) [(0, _), (5, _), (6, _)] (fun (x : (Nat × Heap)) => [(7, .int .i64 (x.1 : Int))]) (fun _ => _) (fun (x : (Nat × Heap)) => (bl, .cells 35 1 [.slice ad q.length cap]) :: (HB ++ x.2)) (fun (x : (Nat × Heap)) => x.1 ≤ q.length ∧ J x.1 x.2) (fun (x : (Nat × Heap)) => q.length - x.1) (0, H) ⟨Nat.zero_le _, hJ⟩ (sub_cons rfl (sub_cons rfl (sub_cons rfl (sub_nil _)))) (sub_cons rfl (sub_nil _)) rfl (HSub.refl _) ?_
  rintro ⟨i, Hi⟩ ⟨hi, hJi⟩
  dsimp only at hi hJi ⊢
  simp only [List.cons_append, List.nil_append]
  refine W_sr ?_
  refine W_bin rfl rfl b_lss rfl ?_
  refine W_nil ?_
  refine W_seq ?_
  refine W_condPS (p := (i : Int) < (q.length : Int)) rfl (by simp) (fun c0 => ?_) (fun c0 => ?_)
  · skip
    refine W_skip ?_
    refine W_seq ?_
    refine W_block ?_
    refine W_sr ?_
    obtain ⟨z, hz⟩ : ∃ z, q[i]? = some z := ⟨_, List.getElem?_eq_getElem (by omega)⟩
    obtain ⟨q0, p0, rfl, hcz⟩ := hrow.at (i := i) (v := Value.string z) (by rw [List.getElem?_map, hz]; rfl)
    refine W_indexAddr (j := i) rfl rfl ty35 ty9 rfl (by omega) rfl rfl ?_
    refine W_load (v := Value.string z) rfl ty9 rfl (by rw [Nat.mul_one]; exact hcz.up (.cons (.here _) (.app (.here _) (.nil _)))) rfl ?_
    refine W_assign rfl rfl ?_
    refine W_nil ?_
    refine W_sr ?_
    refine W_move rfl rfl ?_
    refine W_move rfl rfl ?_
    refine W_yield rfl (.cons rfl .nil) rfl (hround i z Hi hz hJi) ?_
    rintro v H' ⟨Hi', hsub, ⟨rfl, hJ'⟩ | ⟨rfl, hS'⟩⟩
    · skip
      refine W_hsub hsub ?_
      refine W_not rfl rfl ?_
      refine W_nil ?_
      refine W_condF rfl rfl ?_
      refine W_skip ?_
      refine W_blk ?_
      refine W_region ?_
      refine W_bin rfl rfl (b_add (m := ((i + 1 : Nat) : Int)) ((i64w (by omega)).trans (by omega))) rfl ?_
      refine W_move rfl rfl ?_
      refine W_nil ?_
      refine W_again (i + 1, Hi') ⟨by show i + 1 ≤ q.length; omega, hJ'⟩ (by show q.length - (i + 1) < q.length - i; omega) (sub_cons rfl (sub_cons rfl (sub_cons rfl (sub_cons rfl (sub_nil _))))) rfl (HSub.refl _)
    · skip
      refine W_hsub hsub ?_
      refine W_not rfl rfl ?_
      refine W_nil ?_
      refine W_condT rfl rfl ?_
      refine W_ret0m Try.results37 (.nil _) (.refl _) ?_
      exact ⟨Hi', .refl _, .inr hS'⟩
  · skip
    refine W_exit rfl ?_
    refine W_end0m Try.results37 (.nil _) (.refl _) ?_
    obtain rfl : i = q.length := by omega
    exact ⟨Hi, .refl _, .inl hJi⟩
end Go.Proofs.Ytknbohnoiigioaa
