/-
  Own work: contracts of functions that the statement reaches, and plain facts on what they compute; each theorem says its conditions.
-/
import Derived.Test.YtknbohnoiigioaaO4
import Derived.Test.YtknbohnoiigioaaSlTwo
set_option linter.all false
set_option linter.unusedSimpArgs false
set_option linter.unusedVariables false
namespace Go.Proofs.Ytknbohnoiigioaa
open Go Go.Sl
attribute [local irreducible] W

theorem bitsLen0 : Pure Try.prog (fun _ => True) 39 [.int .u64 0] (.int .i64 (Lib.bitLen (0 : Int).toNat : Nat)) := fun _ _ _ =>
  L_of_below (T := fun _ => True) (fun w _ => (Try.bits_Len 0 w (by decide) (by decide)).mono fun _ _ ⟨h1, h2⟩ => ⟨h1, h2 ▸ Go.RowKit.Below.refl _ _⟩) (fun _ _ => trivial)

/-- so many of the first and the last have changed places -/
structure RevAt {K : Type} (d : List K) (i : Nat) (e : List K) : Prop where
  len : e.length = d.length
  at_ : ∀ k, k < d.length → e[k]? = if k < i ∨ d.length - i ≤ k then d[d.length - 1 - k]? else d[k]?
theorem RevAt.zero {K : Type} (d : List K) : RevAt d 0 d := ⟨rfl, fun k hk => by rw [if_neg (by omega)]⟩
theorem RevAt.swap {K : Type} {d e : List K} {i : Nat} {x y : K} (h : RevAt d i e) (hi : 2 * i + 1 < d.length) (hx : e[i]? = some x) (hy : e[d.length - 1 - i]? = some y) : RevAt d (i + 1) ((e.set i y).set (d.length - 1 - i) x) := by
  refine ⟨by rw [List.length_set, List.length_set]; exact h.len, fun k hk => ?_⟩
  have hl := h.len
  have ei : e[i]? = d[i]? := by rw [h.at_ i (by omega), if_neg (by omega)]
  have ej : e[d.length - 1 - i]? = d[d.length - 1 - i]? := by rw [h.at_ _ (by omega), if_neg (by omega)]
  by_cases h1 : k = d.length - 1 - i
  · subst h1
    rw [List.getElem?_set_self (by rw [List.length_set]; omega), if_pos (by omega), ← hx, ei]
    congr 1; omega
  · rw [List.getElem?_set_ne (fun e => h1 e.symm)]
    by_cases h2 : k = i
    · subst h2
      rw [List.getElem?_set_self (by omega), if_pos (by omega), ← hy, ej]
    · rw [List.getElem?_set_ne (fun e => h2 e.symm), h.at_ k hk]
      by_cases h3 : k < i ∨ d.length - i ≤ k
      · rw [if_pos h3, if_pos (by omega)]
      · rw [if_neg h3, if_neg (by omega)]
theorem RevAt.over {K : Type} {d e : List K} {i : Nat} (h : RevAt d i e) (hi : d.length ≤ 2 * i + 1) : e = d.reverse := by
  refine List.ext_getElem? fun k => ?_
  by_cases hk : k < d.length
  · rw [List.getElem?_reverse hk, h.at_ k hk]
    by_cases h3 : k < i ∨ d.length - i ≤ k
    · rw [if_pos h3]
    · rw [if_neg h3]; congr 1; omega
  · rw [List.getElem?_eq_none (by rw [h.len]; omega), List.getElem?_eq_none (by simp; omega)]
set_option maxHeartbeats 1000000 in
theorem insI_nil (fv : Value) : Pure Try.prog (fun _ => True) 42 [.slice none 0 0, .int .i64 0, .int .i64 0, fv] (.tuple #[]) := by
  intro w0 H hT
  refine L_enter Try.func42 rfl Try.ntmps42 rfl rfl ?_
  refine W_sr ?_
  refine W_move rfl rfl ?_
  refine W_bin rfl rfl (b_add (m := 1) (by decide)) rfl ?_
  refine W_assign rfl rfl ?_
  refine W_nil ?_
  refine W_block ?_
  refine W_loopC (X := Unit) [(0, _), (1, _), (2, _), (3, _)] (fun (u : Unit) => [(8, .int .i64 1)]) (fun _ => _) (fun _ => _) (fun (u : Unit) => True) (fun (u : Unit) => 0) () trivial (sub_cons rfl (sub_cons rfl (sub_cons rfl (sub_cons rfl (sub_nil _))))) (sub_cons rfl (sub_nil _)) rfl (by repeat (first | with_reducible exact HSub.refl _ | refine HSub.cons (by repeat (first | exact Take.here _ | apply Take.next | apply Take.app)) ?_ | refine HSub.app (by repeat (first | with_reducible exact TakeS.here _ | apply TakeS.next | apply TakeS.app)) ?_ | exact HSub.nil _ | exact HSub.refl _ | refine HSub.drop ?_ | refine HSub.dropS ?_)) ?_
  intro u hI
  simp only [List.cons_append, List.nil_append]
  refine W_seq ?_
  refine W_sr ?_
  refine W_move rfl rfl ?_
  refine W_move rfl rfl ?_
  refine W_bin rfl rfl b_lss rfl ?_
  refine W_nil ?_
  refine W_condF rfl (by decide) ?_
  refine W_exit rfl ?_
  refine W_end0m (H2 := H) Try.results42 (.nil _) (by repeat (first | with_reducible exact HSub.refl _ | refine HSub.cons (by repeat (first | exact Take.here _ | apply Take.next | apply Take.app)) ?_ | refine HSub.app (by repeat (first | with_reducible exact TakeS.here _ | apply TakeS.next | apply TakeS.app)) ?_ | exact HSub.nil _ | exact HSub.refl _ | refine HSub.drop ?_ | refine HSub.dropS ?_)) ?_
  exact ⟨rfl, rfl⟩
set_option maxHeartbeats 1000000 in
theorem pdqI_nil (lim : Int) (fv : Value) : Pure Try.prog (fun _ => True) 38 [.slice none 0 0, .int .i64 0, .int .i64 0, .int .i64 lim, fv] (.tuple #[]) := by
  intro w0 H hT
  refine L_enter Try.func38 rfl Try.ntmps38 rfl rfl ?_
  refine W_sr ?_
  refine W_assign rfl rfl ?_
  refine W_nil ?_
  refine W_sr ?_
  refine W_assign rfl rfl ?_
  refine W_nil ?_
  refine W_block ?_
  refine W_loopC (X := Unit) [(0, _), (4, _)] (fun (u : Unit) => [(1, .int .i64 0), (2, .int .i64 0)]) (fun _ => _) (fun _ => _) (fun (u : Unit) => True) (fun (u : Unit) => 0) () trivial (sub_cons rfl (sub_cons rfl (sub_nil _))) (sub_cons rfl (sub_cons rfl (sub_nil _))) rfl (by repeat (first | with_reducible exact HSub.refl _ | refine HSub.cons (by repeat (first | exact Take.here _ | apply Take.next | apply Take.app)) ?_ | refine HSub.app (by repeat (first | with_reducible exact TakeS.here _ | apply TakeS.next | apply TakeS.app)) ?_ | exact HSub.nil _ | exact HSub.refl _ | refine HSub.drop ?_ | refine HSub.dropS ?_)) ?_
  intro u hI
  simp only [List.cons_append, List.nil_append]
  refine W_block ?_
  refine W_sr ?_
  refine W_move rfl rfl ?_
  refine W_move rfl rfl ?_
  refine W_bin rfl rfl (b_sub (m := 0) (by decide)) rfl ?_
  refine W_assign rfl rfl ?_
  refine W_nil ?_
  refine W_seq ?_
  refine W_sr ?_
  refine W_move rfl rfl ?_
  refine W_bin rfl rfl b_leq rfl ?_
  refine W_nil ?_
  refine W_condT rfl (by decide) ?_
  refine W_sr ?_
  refine W_move rfl rfl ?_
  refine W_move rfl rfl ?_
  refine W_move rfl rfl ?_
  refine W_move rfl rfl ?_
  refine W_callp (.cons rfl (.cons rfl (.cons rfl (.cons rfl .nil)))) Try.call42 rfl (T := fun _ => True) trivial (insI_nil fv) ?_
  refine W_nil ?_
  refine W_ret0m (H2 := H) Try.results38 (.nil _) (by repeat (first | with_reducible exact HSub.refl _ | refine HSub.cons (by repeat (first | exact Take.here _ | apply Take.next | apply Take.app)) ?_ | refine HSub.app (by repeat (first | with_reducible exact TakeS.here _ | apply TakeS.next | apply TakeS.app)) ?_ | exact HSub.nil _ | exact HSub.refl _ | refine HSub.drop ?_ | refine HSub.dropS ?_)) ?_
  exact ⟨rfl, rfl⟩
set_option maxHeartbeats 1000000 in
theorem srtI_nil (fv : Value) : Pure Try.prog (fun _ => True) 29 [.slice none 0 0, fv] (.tuple #[]) := by
  intro w0 H hT
  refine L_enter Try.func29 rfl Try.ntmps29 rfl rfl ?_
  refine W_sr ?_
  refine W_move rfl rfl ?_
  refine W_len rfl ty22 rfl rfl ?_
  refine W_assign rfl rfl ?_
  refine W_nil ?_
  refine W_region ?_
  refine W_move rfl rfl ?_
  refine W_move rfl rfl ?_
  refine W_move rfl rfl ?_
  refine W_conv (m := 0) rfl ty3 ty76 (by decide) rfl ?_
  refine W_callp (.cons rfl .nil) Try.call39 rfl (T := fun _ => True) trivial bitsLen0 ?_
  refine W_move rfl rfl ?_
  refine W_callp (.cons rfl (.cons rfl (.cons rfl (.cons rfl (.cons rfl .nil))))) Try.call38 rfl (T := fun _ => True) trivial (pdqI_nil _ fv) ?_
  refine W_nil ?_
  refine W_end0m (H2 := H) Try.results29 (.nil _) (by repeat (first | with_reducible exact HSub.refl _ | refine HSub.cons (by repeat (first | exact Take.here _ | apply Take.next | apply Take.app)) ?_ | refine HSub.app (by repeat (first | with_reducible exact TakeS.here _ | apply TakeS.next | apply TakeS.app)) ?_ | exact HSub.nil _ | exact HSub.refl _ | refine HSub.drop ?_ | refine HSub.dropS ?_)) ?_
  exact ⟨rfl, rfl⟩
set_option maxHeartbeats 1000000 in
theorem revI_nil  : Pure Try.prog (fun _ => True) 32 [.slice none 0 0] (.tuple #[]) := by
  intro w0 H hT
  refine L_enter Try.func32 rfl Try.ntmps32 rfl rfl ?_
  refine W_sr ?_
  refine W_move rfl rfl ?_
  refine W_len rfl ty22 rfl rfl ?_
  refine W_bin rfl rfl (b_sub (m := -1) (by decide)) rfl ?_
  refine W_assign rfl rfl ?_
  refine W_assign rfl rfl ?_
  refine W_nil ?_
  refine W_block ?_
  refine W_loopC (X := Unit) [(0, _)] (fun (u : Unit) => [(2, .int .i64 0), (3, .int .i64 (-1))]) (fun _ => _) (fun _ => _) (fun (u : Unit) => True) (fun (u : Unit) => 0) () trivial (sub_cons rfl (sub_nil _)) (sub_cons rfl (sub_cons rfl (sub_nil _))) rfl (by repeat (first | with_reducible exact HSub.refl _ | refine HSub.cons (by repeat (first | exact Take.here _ | apply Take.next | apply Take.app)) ?_ | refine HSub.app (by repeat (first | with_reducible exact TakeS.here _ | apply TakeS.next | apply TakeS.app)) ?_ | exact HSub.nil _ | exact HSub.refl _ | refine HSub.drop ?_ | refine HSub.dropS ?_)) ?_
  intro u hI
  simp only [List.cons_append, List.nil_append]
  refine W_seq ?_
  refine W_sr ?_
  refine W_move rfl rfl ?_
  refine W_move rfl rfl ?_
  refine W_bin rfl rfl b_lss rfl ?_
  refine W_nil ?_
  refine W_condF rfl (by decide) ?_
  refine W_exit rfl ?_
  refine W_end0m (H2 := H) Try.results32 (.nil _) (by repeat (first | with_reducible exact HSub.refl _ | refine HSub.cons (by repeat (first | exact Take.here _ | apply Take.next | apply Take.app)) ?_ | refine HSub.app (by repeat (first | with_reducible exact TakeS.here _ | apply TakeS.next | apply TakeS.app)) ?_ | exact HSub.nil _ | exact HSub.refl _ | refine HSub.drop ?_ | refine HSub.dropS ?_)) ?_
  exact ⟨rfl, rfl⟩
set_option maxHeartbeats 1000000 in
theorem revI_L {w0 : World} {H : Heap} {b tot cap : Nat} {d : List Int} (hd : d.length ≤ 4611686018427387904)  : LCalls Try.prog w0 32 #[.slice (some ⟨b, 0, none⟩) d.length cap] ((b, .cells 3 tot (d.map (Value.int .i64))) :: H) (fun v H' => v = .tuple #[] ∧ H' = (b, .cells 3 tot (d.reverse.map (Value.int .i64))) :: H) := by
  refine L_enter (l := [.slice (some ⟨b, 0, none⟩) d.length cap]) Try.func32 rfl Try.ntmps32 rfl rfl ?_
  refine W_sr ?_
  refine W_move rfl rfl ?_
  refine W_len rfl ty22 rfl rfl ?_
  refine W_bin rfl rfl (b_sub (m := (d.length : Int) - 1) (i64w (by omega))) rfl ?_
  refine W_assign rfl rfl ?_
  refine W_assign rfl rfl ?_
  refine W_nil ?_
  refine W_block ?_
  refine W_loopC (X := (Nat × List Int)) [(0, _)] (fun (x : (Nat × List Int)) => [(2, .int .i64 (x.1 : Int)), (3, .int .i64 ((d.length : Int) - 1 - x.1))]) (fun _ => _) (fun (x : (Nat × List Int)) => (b, .cells 3 tot (x.2.map (Value.int .i64))) :: H) (fun (x : (Nat × List Int)) => 2 * x.1 ≤ d.length ∧ RevAt d x.1 x.2) (fun (x : (Nat × List Int)) => d.length - x.1) (0, d) ⟨Nat.zero_le _, RevAt.zero d⟩ (sub_cons rfl (sub_nil _)) (sub_cons rfl (sub_cons (by simp; rfl) (sub_nil _))) rfl (by repeat (first | with_reducible exact HSub.refl _ | refine HSub.cons (by repeat (first | exact Take.here _ | apply Take.next | apply Take.app)) ?_ | refine HSub.app (by repeat (first | with_reducible exact TakeS.here _ | apply TakeS.next | apply TakeS.app)) ?_ | exact HSub.nil _ | exact HSub.refl _ | refine HSub.drop ?_ | refine HSub.dropS ?_)) ?_
  rintro ⟨i, e⟩ ⟨hi, hR⟩
  dsimp only at hi hR ⊢
  have hel := hR.len
  simp only [List.cons_append, List.nil_append]
  refine W_seq ?_
  refine W_sr ?_
  refine W_move rfl rfl ?_
  refine W_move rfl rfl ?_
  refine W_bin rfl rfl b_lss rfl ?_
  refine W_nil ?_
  refine W_condPS (p := (i : Int) < (d.length : Int) - 1 - i) rfl (by simp) (fun c0 => ?_) (fun c0 => ?_)
  · skip
    refine W_skip ?_
    refine W_seq ?_
    refine W_block ?_
    obtain ⟨x, hx⟩ : ∃ x, e[i]? = some x := ⟨_, List.getElem?_eq_getElem (by omega)⟩
    obtain ⟨y, hy⟩ : ∃ y, e[d.length - 1 - i]? = some y := ⟨_, List.getElem?_eq_getElem (by omega)⟩
    refine W_cut [(0, .slice (some ⟨b, 0, none⟩) d.length cap), (2, .int .i64 (i : Int)), (3, .int .i64 ((d.length : Int) - 1 - i))] ((b, .cells 3 tot (((e.set i y).set (d.length - 1 - i) x).map (Value.int .i64))) :: H) ?_ ?_
    · skip
      refine W_any (by kernel_rfl) ?_
      refine WA_take 0 (l' := #[true, false, false, false, false, false, false, false, false, false, false, false, false, false, false, false]) rfl (by decide +kernel) (by decide +kernel) (by decide +kernel) (fun _ h => by cases h) (fun _ h => by cases h) (by decide +kernel) (X_move rfl) rfl ?_
      refine WA_take 1 (l' := #[true, true, false, false, false, false, false, false, false, false, false, false, false, false, false, false]) rfl (by decide +kernel) (by decide +kernel) (by decide +kernel) (fun _ h => by cases h) (fun _ h => by cases h) (by decide +kernel) (X_move rfl) rfl ?_
      refine WA_take 2 (l' := #[true, true, true, false, false, false, false, false, false, false, false, false, false, false, false, false]) rfl (by decide +kernel) (by decide +kernel) (by decide +kernel) (fun _ h => by cases h) (fun _ h => by cases h) (by decide +kernel) (X_move rfl) rfl ?_
      refine WA_take 3 (l' := #[true, true, true, true, false, false, false, false, false, false, false, false, false, false, false, false]) rfl (by decide +kernel) (by decide +kernel) (by decide +kernel) (fun _ h => by cases h) (fun _ h => by cases h) (by decide +kernel) (X_move rfl) rfl ?_
      refine WA_take 4 (l' := #[true, true, true, true, true, false, false, false, false, false, false, false, false, false, false, false]) rfl (by decide +kernel) (by decide +kernel) (by decide +kernel) (fun _ h => by cases h) (fun _ h => by cases h) (by decide +kernel) (X_move rfl) rfl ?_
      refine WA_take 5 (l' := #[true, true, true, true, true, true, false, false, false, false, false, false, false, false, false, false]) rfl (by decide +kernel) (by decide +kernel) (by decide +kernel) (fun _ h => by cases h) (fun _ h => by cases h) (by decide +kernel) (X_move rfl) rfl ?_
      refine WA_take 6 (l' := #[true, true, true, true, true, true, true, false, false, false, false, false, false, false, false, false]) rfl (by decide +kernel) (by decide +kernel) (by decide +kernel) (fun _ h => by cases h) (fun _ h => by cases h) (by decide +kernel) (X_indexAddr (j := (d.length - 1 - i)) rfl rfl ty22 ty3 (by first | rfl | omega) (by omega) (Nat.zero_add _)) rfl ?_
      refine WA_take 8 (l' := #[true, true, true, true, true, true, true, false, true, false, false, false, false, false, false, false]) rfl (by decide +kernel) (by decide +kernel) (by decide +kernel) (fun _ h => by cases h) (fun _ h => by cases h) (by decide +kernel) (X_move rfl) rfl ?_
      refine WA_take 9 (l' := #[true, true, true, true, true, true, true, false, true, true, false, false, false, false, false, false]) rfl (by decide +kernel) (by decide +kernel) (by decide +kernel) (fun _ h => by cases h) (fun _ h => by cases h) (by decide +kernel) (X_move rfl) rfl ?_
      refine WA_take 10 (l' := #[true, true, true, true, true, true, true, false, true, true, true, false, false, false, false, false]) rfl (by decide +kernel) (by decide +kernel) (by decide +kernel) (fun _ h => by cases h) (fun _ h => by cases h) (by decide +kernel) (X_indexAddr (j := i) rfl rfl ty22 ty3 (by first | rfl | omega) (by omega) (Nat.zero_add _)) rfl ?_
      refine WA_two 7 11 (l' := #[true, true, true, true, true, true, true, true, true, true, true, false, false, false, false, false]) (l'' := #[true, true, true, true, true, true, true, false, true, true, true, true, false, false, false, false]) (by decide +kernel) rfl rfl (by decide +kernel) (by decide +kernel) ?_ ?_
      · skip
        refine W_load (v := (Value.int .i64) y) rfl ty3 rfl (Cell.own (b := b) (by repeat (first | exact List.mem_cons_self | apply List.mem_cons_of_mem | apply List.mem_append_right)) (by rw [Nat.mul_one, List.getElem?_map, hy]; rfl)) rfl ?_
        refine W_nil ?_
        refine WA_goal ?_
        refine WA_one 11 (l' := #[true, true, true, true, true, true, true, true, true, true, true, true, false, false, false, false]) (by decide +kernel) rfl (by decide +kernel) (fun _ h => by cases h) ?_
        refine W_load (v := (Value.int .i64) x) rfl ty3 rfl (Cell.own (b := b) (by repeat (first | exact List.mem_cons_self | apply List.mem_cons_of_mem | apply List.mem_append_right)) (by rw [Nat.mul_one, List.getElem?_map, hx]; rfl)) rfl ?_
        refine W_nil ?_
        refine WA_goal ?_
        refine WA_take 12 (l' := #[true, true, true, true, true, true, true, true, true, true, true, true, true, false, false, false]) rfl (by decide +kernel) (by decide +kernel) (by decide +kernel) (fun _ h => by cases h) (fun _ h => by cases h) (by decide +kernel) (X_indexAddr (j := i) rfl rfl ty22 ty3 (by first | rfl | omega) (by omega) (Nat.zero_add _)) rfl ?_
        refine WA_one 13 (l' := #[true, true, true, true, true, true, true, true, true, true, true, true, true, true, false, false]) (by decide +kernel) rfl (by decide +kernel) (fun _ h => by cases h) ?_
        refine W_store (l := (e).map (Value.int .i64)) (l' := ((e).set i y).map (Value.int .i64)) rfl rfl ty3 rfl rfl (b := b) (by repeat (first | exact List.mem_cons_self | apply List.mem_cons_of_mem | apply List.mem_append_right)) (by rw [Nat.mul_one, List.length_map]; simp; omega) (by rw [Nat.mul_one]; simp only [List.map_set]) (by repeat (first | exact Upd.head _ | apply Upd.tail | apply Upd.app)) ?_
        refine W_nil ?_
        refine WA_goal ?_
        refine WA_take 14 (l' := #[true, true, true, true, true, true, true, true, true, true, true, true, true, true, true, false]) rfl (by decide +kernel) (by decide +kernel) (by decide +kernel) (fun _ h => by cases h) (fun _ h => by cases h) (by decide +kernel) (X_indexAddr (j := (d.length - 1 - i)) rfl rfl ty22 ty3 (by first | rfl | omega) (by omega) (Nat.zero_add _)) rfl ?_
        refine WA_one 15 (l' := #[true, true, true, true, true, true, true, true, true, true, true, true, true, true, true, true]) (by decide +kernel) rfl (by decide +kernel) (fun _ h => by cases h) ?_
        refine W_store (l := (e.set i y).map (Value.int .i64)) (l' := ((e.set i y).set (d.length - 1 - i) x).map (Value.int .i64)) rfl rfl ty3 rfl rfl (b := b) (by repeat (first | exact List.mem_cons_self | apply List.mem_cons_of_mem | apply List.mem_append_right)) (by rw [Nat.mul_one, List.length_map]; simp; omega) (by rw [Nat.mul_one]; simp only [List.map_set]) (by repeat (first | exact Upd.head _ | apply Upd.tail | apply Upd.app)) ?_
        refine W_nil ?_
        refine WA_goal ?_
        refine WA_done (by decide +kernel) ?_
        refine W_joined (sub_cons rfl (sub_cons rfl (sub_cons rfl (sub_nil _)))) (by repeat (first | with_reducible exact HSub.refl _ | refine HSub.cons (by repeat (first | exact Take.here _ | apply Take.next | apply Take.app)) ?_ | refine HSub.app (by repeat (first | with_reducible exact TakeS.here _ | apply TakeS.next | apply TakeS.app)) ?_ | exact HSub.nil _ | exact HSub.refl _ | refine HSub.drop ?_ | refine HSub.dropS ?_))
      · skip
        refine W_load (v := (Value.int .i64) x) rfl ty3 rfl (Cell.own (b := b) (by repeat (first | exact List.mem_cons_self | apply List.mem_cons_of_mem | apply List.mem_append_right)) (by rw [Nat.mul_one, List.getElem?_map, hx]; rfl)) rfl ?_
        refine W_nil ?_
        refine WA_goal ?_
        refine WA_one 7 (l' := #[true, true, true, true, true, true, true, true, true, true, true, true, false, false, false, false]) (by decide +kernel) rfl (by decide +kernel) (fun _ h => by cases h) ?_
        refine W_load (v := (Value.int .i64) y) rfl ty3 rfl (Cell.own (b := b) (by repeat (first | exact List.mem_cons_self | apply List.mem_cons_of_mem | apply List.mem_append_right)) (by rw [Nat.mul_one, List.getElem?_map, hy]; rfl)) rfl ?_
        refine W_nil ?_
        refine WA_goal ?_
        refine WA_take 12 (l' := #[true, true, true, true, true, true, true, true, true, true, true, true, true, false, false, false]) rfl (by decide +kernel) (by decide +kernel) (by decide +kernel) (fun _ h => by cases h) (fun _ h => by cases h) (by decide +kernel) (X_indexAddr (j := i) rfl rfl ty22 ty3 (by first | rfl | omega) (by omega) (Nat.zero_add _)) rfl ?_
        refine WA_one 13 (l' := #[true, true, true, true, true, true, true, true, true, true, true, true, true, true, false, false]) (by decide +kernel) rfl (by decide +kernel) (fun _ h => by cases h) ?_
        refine W_store (l := (e).map (Value.int .i64)) (l' := ((e).set i y).map (Value.int .i64)) rfl rfl ty3 rfl rfl (b := b) (by repeat (first | exact List.mem_cons_self | apply List.mem_cons_of_mem | apply List.mem_append_right)) (by rw [Nat.mul_one, List.length_map]; simp; omega) (by rw [Nat.mul_one]; simp only [List.map_set]) (by repeat (first | exact Upd.head _ | apply Upd.tail | apply Upd.app)) ?_
        refine W_nil ?_
        refine WA_goal ?_
        refine WA_take 14 (l' := #[true, true, true, true, true, true, true, true, true, true, true, true, true, true, true, false]) rfl (by decide +kernel) (by decide +kernel) (by decide +kernel) (fun _ h => by cases h) (fun _ h => by cases h) (by decide +kernel) (X_indexAddr (j := (d.length - 1 - i)) rfl rfl ty22 ty3 (by first | rfl | omega) (by omega) (Nat.zero_add _)) rfl ?_
        refine WA_one 15 (l' := #[true, true, true, true, true, true, true, true, true, true, true, true, true, true, true, true]) (by decide +kernel) rfl (by decide +kernel) (fun _ h => by cases h) ?_
        refine W_store (l := (e.set i y).map (Value.int .i64)) (l' := ((e.set i y).set (d.length - 1 - i) x).map (Value.int .i64)) rfl rfl ty3 rfl rfl (b := b) (by repeat (first | exact List.mem_cons_self | apply List.mem_cons_of_mem | apply List.mem_append_right)) (by rw [Nat.mul_one, List.length_map]; simp; omega) (by rw [Nat.mul_one]; simp only [List.map_set]) (by repeat (first | exact Upd.head _ | apply Upd.tail | apply Upd.app)) ?_
        refine W_nil ?_
        refine WA_goal ?_
        refine WA_done (by decide +kernel) ?_
        refine W_joined (sub_cons rfl (sub_cons rfl (sub_cons rfl (sub_nil _)))) (by repeat (first | with_reducible exact HSub.refl _ | refine HSub.cons (by repeat (first | exact Take.here _ | apply Take.next | apply Take.app)) ?_ | refine HSub.app (by repeat (first | with_reducible exact TakeS.here _ | apply TakeS.next | apply TakeS.app)) ?_ | exact HSub.nil _ | exact HSub.refl _ | refine HSub.drop ?_ | refine HSub.dropS ?_))
    refine W_blk ?_
    refine W_region ?_
    refine W_move rfl rfl ?_
    refine W_bin rfl rfl (b_add (m := ((i + 1 : Nat) : Int)) ((i64w (by omega)).trans (by omega))) rfl ?_
    refine W_move rfl rfl ?_
    refine W_bin rfl rfl (b_sub (m := (d.length : Int) - 1 - ((i + 1 : Nat) : Int)) ((i64w (by omega)).trans (by omega))) rfl ?_
    refine W_assign rfl rfl ?_
    refine W_assign rfl rfl ?_
    refine W_nil ?_
    refine W_again (i + 1, (e.set i y).set (d.length - 1 - i) x) ⟨by show 2 * (i + 1) ≤ d.length; omega, hR.swap (by omega) hx hy⟩ (by show d.length - (i + 1) < d.length - i; omega) (sub_cons rfl (sub_cons rfl (sub_cons rfl (sub_nil _)))) rfl (by repeat (first | with_reducible exact HSub.refl _ | refine HSub.cons (by repeat (first | exact Take.here _ | apply Take.next | apply Take.app)) ?_ | refine HSub.app (by repeat (first | with_reducible exact TakeS.here _ | apply TakeS.next | apply TakeS.app)) ?_ | exact HSub.nil _ | exact HSub.refl _ | refine HSub.drop ?_ | refine HSub.dropS ?_))
  · skip
    refine W_exit rfl ?_
    refine W_end0m Try.results32 (.nil _) (.refl _) ?_
    obtain rfl := hR.over (by omega)
    exact ⟨rfl, rfl⟩
set_option maxHeartbeats 1000000 in
theorem insS_nil (fv : Value) : Pure Try.prog (fun _ => True) 52 [.slice none 0 0, .int .i64 0, .int .i64 0, fv] (.tuple #[]) := by
  intro w0 H hT
  refine L_enter Try.func52 rfl Try.ntmps52 rfl rfl ?_
  refine W_sr ?_
  refine W_move rfl rfl ?_
  refine W_bin rfl rfl (b_add (m := 1) (by decide)) rfl ?_
  refine W_assign rfl rfl ?_
  refine W_nil ?_
  refine W_block ?_
  refine W_loopC (X := Unit) [(0, _), (1, _), (2, _), (3, _)] (fun (u : Unit) => [(8, .int .i64 1)]) (fun _ => _) (fun _ => _) (fun (u : Unit) => True) (fun (u : Unit) => 0) () trivial (sub_cons rfl (sub_cons rfl (sub_cons rfl (sub_cons rfl (sub_nil _))))) (sub_cons rfl (sub_nil _)) rfl (by repeat (first | with_reducible exact HSub.refl _ | refine HSub.cons (by repeat (first | exact Take.here _ | apply Take.next | apply Take.app)) ?_ | refine HSub.app (by repeat (first | with_reducible exact TakeS.here _ | apply TakeS.next | apply TakeS.app)) ?_ | exact HSub.nil _ | exact HSub.refl _ | refine HSub.drop ?_ | refine HSub.dropS ?_)) ?_
  intro u hI
  simp only [List.cons_append, List.nil_append]
  refine W_seq ?_
  refine W_sr ?_
  refine W_move rfl rfl ?_
  refine W_move rfl rfl ?_
  refine W_bin rfl rfl b_lss rfl ?_
  refine W_nil ?_
  refine W_condF rfl (by decide) ?_
  refine W_exit rfl ?_
  refine W_end0m (H2 := H) Try.results52 (.nil _) (by repeat (first | with_reducible exact HSub.refl _ | refine HSub.cons (by repeat (first | exact Take.here _ | apply Take.next | apply Take.app)) ?_ | refine HSub.app (by repeat (first | with_reducible exact TakeS.here _ | apply TakeS.next | apply TakeS.app)) ?_ | exact HSub.nil _ | exact HSub.refl _ | refine HSub.drop ?_ | refine HSub.dropS ?_)) ?_
  exact ⟨rfl, rfl⟩
set_option maxHeartbeats 1000000 in
theorem pdqS_nil (lim : Int) (fv : Value) : Pure Try.prog (fun _ => True) 41 [.slice none 0 0, .int .i64 0, .int .i64 0, .int .i64 lim, fv] (.tuple #[]) := by
  intro w0 H hT
  refine L_enter Try.func41 rfl Try.ntmps41 rfl rfl ?_
  refine W_sr ?_
  refine W_assign rfl rfl ?_
  refine W_nil ?_
  refine W_sr ?_
  refine W_assign rfl rfl ?_
  refine W_nil ?_
  refine W_block ?_
  refine W_loopC (X := Unit) [(0, _), (4, _)] (fun (u : Unit) => [(1, .int .i64 0), (2, .int .i64 0)]) (fun _ => _) (fun _ => _) (fun (u : Unit) => True) (fun (u : Unit) => 0) () trivial (sub_cons rfl (sub_cons rfl (sub_nil _))) (sub_cons rfl (sub_cons rfl (sub_nil _))) rfl (by repeat (first | with_reducible exact HSub.refl _ | refine HSub.cons (by repeat (first | exact Take.here _ | apply Take.next | apply Take.app)) ?_ | refine HSub.app (by repeat (first | with_reducible exact TakeS.here _ | apply TakeS.next | apply TakeS.app)) ?_ | exact HSub.nil _ | exact HSub.refl _ | refine HSub.drop ?_ | refine HSub.dropS ?_)) ?_
  intro u hI
  simp only [List.cons_append, List.nil_append]
  refine W_block ?_
  refine W_sr ?_
  refine W_move rfl rfl ?_
  refine W_move rfl rfl ?_
  refine W_bin rfl rfl (b_sub (m := 0) (by decide)) rfl ?_
  refine W_assign rfl rfl ?_
  refine W_nil ?_
  refine W_seq ?_
  refine W_sr ?_
  refine W_move rfl rfl ?_
  refine W_bin rfl rfl b_leq rfl ?_
  refine W_nil ?_
  refine W_condT rfl (by decide) ?_
  refine W_sr ?_
  refine W_move rfl rfl ?_
  refine W_move rfl rfl ?_
  refine W_move rfl rfl ?_
  refine W_move rfl rfl ?_
  refine W_callp (.cons rfl (.cons rfl (.cons rfl (.cons rfl .nil)))) Try.call52 rfl (T := fun _ => True) trivial (insS_nil fv) ?_
  refine W_nil ?_
  refine W_ret0m (H2 := H) Try.results41 (.nil _) (by repeat (first | with_reducible exact HSub.refl _ | refine HSub.cons (by repeat (first | exact Take.here _ | apply Take.next | apply Take.app)) ?_ | refine HSub.app (by repeat (first | with_reducible exact TakeS.here _ | apply TakeS.next | apply TakeS.app)) ?_ | exact HSub.nil _ | exact HSub.refl _ | refine HSub.drop ?_ | refine HSub.dropS ?_)) ?_
  exact ⟨rfl, rfl⟩
set_option maxHeartbeats 1000000 in
theorem srtS_nil (fv : Value) : Pure Try.prog (fun _ => True) 34 [.slice none 0 0, fv] (.tuple #[]) := by
  intro w0 H hT
  refine L_enter Try.func34 rfl Try.ntmps34 rfl rfl ?_
  refine W_sr ?_
  refine W_move rfl rfl ?_
  refine W_len rfl ty35 rfl rfl ?_
  refine W_assign rfl rfl ?_
  refine W_nil ?_
  refine W_region ?_
  refine W_move rfl rfl ?_
  refine W_move rfl rfl ?_
  refine W_move rfl rfl ?_
  refine W_conv (m := 0) rfl ty3 ty76 (by decide) rfl ?_
  refine W_callp (.cons rfl .nil) Try.call39 rfl (T := fun _ => True) trivial bitsLen0 ?_
  refine W_move rfl rfl ?_
  refine W_callp (.cons rfl (.cons rfl (.cons rfl (.cons rfl (.cons rfl .nil))))) Try.call41 rfl (T := fun _ => True) trivial (pdqS_nil _ fv) ?_
  refine W_nil ?_
  refine W_end0m (H2 := H) Try.results34 (.nil _) (by repeat (first | with_reducible exact HSub.refl _ | refine HSub.cons (by repeat (first | exact Take.here _ | apply Take.next | apply Take.app)) ?_ | refine HSub.app (by repeat (first | with_reducible exact TakeS.here _ | apply TakeS.next | apply TakeS.app)) ?_ | exact HSub.nil _ | exact HSub.refl _ | refine HSub.drop ?_ | refine HSub.dropS ?_)) ?_
  exact ⟨rfl, rfl⟩
set_option maxHeartbeats 1000000 in
theorem revS_nil  : Pure Try.prog (fun _ => True) 36 [.slice none 0 0] (.tuple #[]) := by
  intro w0 H hT
  refine L_enter Try.func36 rfl Try.ntmps36 rfl rfl ?_
  refine W_sr ?_
  refine W_move rfl rfl ?_
  refine W_len rfl ty35 rfl rfl ?_
  refine W_bin rfl rfl (b_sub (m := -1) (by decide)) rfl ?_
  refine W_assign rfl rfl ?_
  refine W_assign rfl rfl ?_
  refine W_nil ?_
  refine W_block ?_
  refine W_loopC (X := Unit) [(0, _)] (fun (u : Unit) => [(2, .int .i64 0), (3, .int .i64 (-1))]) (fun _ => _) (fun _ => _) (fun (u : Unit) => True) (fun (u : Unit) => 0) () trivial (sub_cons rfl (sub_nil _)) (sub_cons rfl (sub_cons rfl (sub_nil _))) rfl (by repeat (first | with_reducible exact HSub.refl _ | refine HSub.cons (by repeat (first | exact Take.here _ | apply Take.next | apply Take.app)) ?_ | refine HSub.app (by repeat (first | with_reducible exact TakeS.here _ | apply TakeS.next | apply TakeS.app)) ?_ | exact HSub.nil _ | exact HSub.refl _ | refine HSub.drop ?_ | refine HSub.dropS ?_)) ?_
  intro u hI
  simp only [List.cons_append, List.nil_append]
  refine W_seq ?_
  refine W_sr ?_
  refine W_move rfl rfl ?_
  refine W_move rfl rfl ?_
  refine W_bin rfl rfl b_lss rfl ?_
  refine W_nil ?_
  refine W_condF rfl (by decide) ?_
  refine W_exit rfl ?_
  refine W_end0m (H2 := H) Try.results36 (.nil _) (by repeat (first | with_reducible exact HSub.refl _ | refine HSub.cons (by repeat (first | exact Take.here _ | apply Take.next | apply Take.app)) ?_ | refine HSub.app (by repeat (first | with_reducible exact TakeS.here _ | apply TakeS.next | apply TakeS.app)) ?_ | exact HSub.nil _ | exact HSub.refl _ | refine HSub.drop ?_ | refine HSub.dropS ?_)) ?_
  exact ⟨rfl, rfl⟩
set_option maxHeartbeats 1000000 in
theorem revS_L {w0 : World} {H : Heap} {b tot cap : Nat} {d : List ByteArray} (hd : d.length ≤ 4611686018427387904)  : LCalls Try.prog w0 36 #[.slice (some ⟨b, 0, none⟩) d.length cap] ((b, .cells 9 tot (d.map Value.string)) :: H) (fun v H' => v = .tuple #[] ∧ H' = (b, .cells 9 tot (d.reverse.map Value.string)) :: H) := by
  refine L_enter (l := [.slice (some ⟨b, 0, none⟩) d.length cap]) Try.func36 rfl Try.ntmps36 rfl rfl ?_
  refine W_sr ?_
  refine W_move rfl rfl ?_
  refine W_len rfl ty35 rfl rfl ?_
  refine W_bin rfl rfl (b_sub (m := (d.length : Int) - 1) (i64w (by omega))) rfl ?_
  refine W_assign rfl rfl ?_
  refine W_assign rfl rfl ?_
  refine W_nil ?_
  refine W_block ?_
  refine W_loopC (X := (Nat × List ByteArray)) [(0, _)] (fun (x : (Nat × List ByteArray)) => [(2, .int .i64 (x.1 : Int)), (3, .int .i64 ((d.length : Int) - 1 - x.1))]) (fun _ => _) (fun (x : (Nat × List ByteArray)) => (b, .cells 9 tot (x.2.map Value.string)) :: H) (fun (x : (Nat × List ByteArray)) => 2 * x.1 ≤ d.length ∧ RevAt d x.1 x.2) (fun (x : (Nat × List ByteArray)) => d.length - x.1) (0, d) ⟨Nat.zero_le _, RevAt.zero d⟩ (sub_cons rfl (sub_nil _)) (sub_cons rfl (sub_cons (by simp; rfl) (sub_nil _))) rfl (by repeat (first | with_reducible exact HSub.refl _ | refine HSub.cons (by repeat (first | exact Take.here _ | apply Take.next | apply Take.app)) ?_ | refine HSub.app (by repeat (first | with_reducible exact TakeS.here _ | apply TakeS.next | apply TakeS.app)) ?_ | exact HSub.nil _ | exact HSub.refl _ | refine HSub.drop ?_ | refine HSub.dropS ?_)) ?_
  rintro ⟨i, e⟩ ⟨hi, hR⟩
  dsimp only at hi hR ⊢
  have hel := hR.len
  simp only [List.cons_append, List.nil_append]
  refine W_seq ?_
  refine W_sr ?_
  refine W_move rfl rfl ?_
  refine W_move rfl rfl ?_
  refine W_bin rfl rfl b_lss rfl ?_
  refine W_nil ?_
  refine W_condPS (p := (i : Int) < (d.length : Int) - 1 - i) rfl (by simp) (fun c0 => ?_) (fun c0 => ?_)
  · skip
    refine W_skip ?_
    refine W_seq ?_
    refine W_block ?_
    obtain ⟨x, hx⟩ : ∃ x, e[i]? = some x := ⟨_, List.getElem?_eq_getElem (by omega)⟩
    obtain ⟨y, hy⟩ : ∃ y, e[d.length - 1 - i]? = some y := ⟨_, List.getElem?_eq_getElem (by omega)⟩
    refine W_cut [(0, .slice (some ⟨b, 0, none⟩) d.length cap), (2, .int .i64 (i : Int)), (3, .int .i64 ((d.length : Int) - 1 - i))] ((b, .cells 9 tot (((e.set i y).set (d.length - 1 - i) x).map Value.string)) :: H) ?_ ?_
    · skip
      refine W_any (by kernel_rfl) ?_
      refine WA_take 0 (l' := #[true, false, false, false, false, false, false, false, false, false, false, false, false, false, false, false]) rfl (by decide +kernel) (by decide +kernel) (by decide +kernel) (fun _ h => by cases h) (fun _ h => by cases h) (by decide +kernel) (X_move rfl) rfl ?_
      refine WA_take 1 (l' := #[true, true, false, false, false, false, false, false, false, false, false, false, false, false, false, false]) rfl (by decide +kernel) (by decide +kernel) (by decide +kernel) (fun _ h => by cases h) (fun _ h => by cases h) (by decide +kernel) (X_move rfl) rfl ?_
      refine WA_take 2 (l' := #[true, true, true, false, false, false, false, false, false, false, false, false, false, false, false, false]) rfl (by decide +kernel) (by decide +kernel) (by decide +kernel) (fun _ h => by cases h) (fun _ h => by cases h) (by decide +kernel) (X_move rfl) rfl ?_
      refine WA_take 3 (l' := #[true, true, true, true, false, false, false, false, false, false, false, false, false, false, false, false]) rfl (by decide +kernel) (by decide +kernel) (by decide +kernel) (fun _ h => by cases h) (fun _ h => by cases h) (by decide +kernel) (X_move rfl) rfl ?_
      refine WA_take 4 (l' := #[true, true, true, true, true, false, false, false, false, false, false, false, false, false, false, false]) rfl (by decide +kernel) (by decide +kernel) (by decide +kernel) (fun _ h => by cases h) (fun _ h => by cases h) (by decide +kernel) (X_move rfl) rfl ?_
      refine WA_take 5 (l' := #[true, true, true, true, true, true, false, false, false, false, false, false, false, false, false, false]) rfl (by decide +kernel) (by decide +kernel) (by decide +kernel) (fun _ h => by cases h) (fun _ h => by cases h) (by decide +kernel) (X_move rfl) rfl ?_
      refine WA_take 6 (l' := #[true, true, true, true, true, true, true, false, false, false, false, false, false, false, false, false]) rfl (by decide +kernel) (by decide +kernel) (by decide +kernel) (fun _ h => by cases h) (fun _ h => by cases h) (by decide +kernel) (X_indexAddr (j := (d.length - 1 - i)) rfl rfl ty35 ty9 (by first | rfl | omega) (by omega) (Nat.zero_add _)) rfl ?_
      refine WA_take 8 (l' := #[true, true, true, true, true, true, true, false, true, false, false, false, false, false, false, false]) rfl (by decide +kernel) (by decide +kernel) (by decide +kernel) (fun _ h => by cases h) (fun _ h => by cases h) (by decide +kernel) (X_move rfl) rfl ?_
      refine WA_take 9 (l' := #[true, true, true, true, true, true, true, false, true, true, false, false, false, false, false, false]) rfl (by decide +kernel) (by decide +kernel) (by decide +kernel) (fun _ h => by cases h) (fun _ h => by cases h) (by decide +kernel) (X_move rfl) rfl ?_
      refine WA_take 10 (l' := #[true, true, true, true, true, true, true, false, true, true, true, false, false, false, false, false]) rfl (by decide +kernel) (by decide +kernel) (by decide +kernel) (fun _ h => by cases h) (fun _ h => by cases h) (by decide +kernel) (X_indexAddr (j := i) rfl rfl ty35 ty9 (by first | rfl | omega) (by omega) (Nat.zero_add _)) rfl ?_
      refine WA_two 7 11 (l' := #[true, true, true, true, true, true, true, true, true, true, true, false, false, false, false, false]) (l'' := #[true, true, true, true, true, true, true, false, true, true, true, true, false, false, false, false]) (by decide +kernel) rfl rfl (by decide +kernel) (by decide +kernel) ?_ ?_
      · skip
        refine W_load (v := Value.string y) rfl ty9 rfl (Cell.own (b := b) (by repeat (first | exact List.mem_cons_self | apply List.mem_cons_of_mem | apply List.mem_append_right)) (by rw [Nat.mul_one, List.getElem?_map, hy]; rfl)) rfl ?_
        refine W_nil ?_
        refine WA_goal ?_
        refine WA_one 11 (l' := #[true, true, true, true, true, true, true, true, true, true, true, true, false, false, false, false]) (by decide +kernel) rfl (by decide +kernel) (fun _ h => by cases h) ?_
        refine W_load (v := Value.string x) rfl ty9 rfl (Cell.own (b := b) (by repeat (first | exact List.mem_cons_self | apply List.mem_cons_of_mem | apply List.mem_append_right)) (by rw [Nat.mul_one, List.getElem?_map, hx]; rfl)) rfl ?_
        refine W_nil ?_
        refine WA_goal ?_
        refine WA_take 12 (l' := #[true, true, true, true, true, true, true, true, true, true, true, true, true, false, false, false]) rfl (by decide +kernel) (by decide +kernel) (by decide +kernel) (fun _ h => by cases h) (fun _ h => by cases h) (by decide +kernel) (X_indexAddr (j := i) rfl rfl ty35 ty9 (by first | rfl | omega) (by omega) (Nat.zero_add _)) rfl ?_
        refine WA_one 13 (l' := #[true, true, true, true, true, true, true, true, true, true, true, true, true, true, false, false]) (by decide +kernel) rfl (by decide +kernel) (fun _ h => by cases h) ?_
        refine W_store (l := (e).map Value.string) (l' := ((e).set i y).map Value.string) rfl rfl ty9 rfl rfl (b := b) (by repeat (first | exact List.mem_cons_self | apply List.mem_cons_of_mem | apply List.mem_append_right)) (by rw [Nat.mul_one, List.length_map]; simp; omega) (by rw [Nat.mul_one]; simp only [List.map_set]) (by repeat (first | exact Upd.head _ | apply Upd.tail | apply Upd.app)) ?_
        refine W_nil ?_
        refine WA_goal ?_
        refine WA_take 14 (l' := #[true, true, true, true, true, true, true, true, true, true, true, true, true, true, true, false]) rfl (by decide +kernel) (by decide +kernel) (by decide +kernel) (fun _ h => by cases h) (fun _ h => by cases h) (by decide +kernel) (X_indexAddr (j := (d.length - 1 - i)) rfl rfl ty35 ty9 (by first | rfl | omega) (by omega) (Nat.zero_add _)) rfl ?_
        refine WA_one 15 (l' := #[true, true, true, true, true, true, true, true, true, true, true, true, true, true, true, true]) (by decide +kernel) rfl (by decide +kernel) (fun _ h => by cases h) ?_
        refine W_store (l := (e.set i y).map Value.string) (l' := ((e.set i y).set (d.length - 1 - i) x).map Value.string) rfl rfl ty9 rfl rfl (b := b) (by repeat (first | exact List.mem_cons_self | apply List.mem_cons_of_mem | apply List.mem_append_right)) (by rw [Nat.mul_one, List.length_map]; simp; omega) (by rw [Nat.mul_one]; simp only [List.map_set]) (by repeat (first | exact Upd.head _ | apply Upd.tail | apply Upd.app)) ?_
        refine W_nil ?_
        refine WA_goal ?_
        refine WA_done (by decide +kernel) ?_
        refine W_joined (sub_cons rfl (sub_cons rfl (sub_cons rfl (sub_nil _)))) (by repeat (first | with_reducible exact HSub.refl _ | refine HSub.cons (by repeat (first | exact Take.here _ | apply Take.next | apply Take.app)) ?_ | refine HSub.app (by repeat (first | with_reducible exact TakeS.here _ | apply TakeS.next | apply TakeS.app)) ?_ | exact HSub.nil _ | exact HSub.refl _ | refine HSub.drop ?_ | refine HSub.dropS ?_))
      · skip
        refine W_load (v := Value.string x) rfl ty9 rfl (Cell.own (b := b) (by repeat (first | exact List.mem_cons_self | apply List.mem_cons_of_mem | apply List.mem_append_right)) (by rw [Nat.mul_one, List.getElem?_map, hx]; rfl)) rfl ?_
        refine W_nil ?_
        refine WA_goal ?_
        refine WA_one 7 (l' := #[true, true, true, true, true, true, true, true, true, true, true, true, false, false, false, false]) (by decide +kernel) rfl (by decide +kernel) (fun _ h => by cases h) ?_
        refine W_load (v := Value.string y) rfl ty9 rfl (Cell.own (b := b) (by repeat (first | exact List.mem_cons_self | apply List.mem_cons_of_mem | apply List.mem_append_right)) (by rw [Nat.mul_one, List.getElem?_map, hy]; rfl)) rfl ?_
        refine W_nil ?_
        refine WA_goal ?_
        refine WA_take 12 (l' := #[true, true, true, true, true, true, true, true, true, true, true, true, true, false, false, false]) rfl (by decide +kernel) (by decide +kernel) (by decide +kernel) (fun _ h => by cases h) (fun _ h => by cases h) (by decide +kernel) (X_indexAddr (j := i) rfl rfl ty35 ty9 (by first | rfl | omega) (by omega) (Nat.zero_add _)) rfl ?_
        refine WA_one 13 (l' := #[true, true, true, true, true, true, true, true, true, true, true, true, true, true, false, false]) (by decide +kernel) rfl (by decide +kernel) (fun _ h => by cases h) ?_
        refine W_store (l := (e).map Value.string) (l' := ((e).set i y).map Value.string) rfl rfl ty9 rfl rfl (b := b) (by repeat (first | exact List.mem_cons_self | apply List.mem_cons_of_mem | apply List.mem_append_right)) (by rw [Nat.mul_one, List.length_map]; simp; omega) (by rw [Nat.mul_one]; simp only [List.map_set]) (by repeat (first | exact Upd.head _ | apply Upd.tail | apply Upd.app)) ?_
        refine W_nil ?_
        refine WA_goal ?_
        refine WA_take 14 (l' := #[true, true, true, true, true, true, true, true, true, true, true, true, true, true, true, false]) rfl (by decide +kernel) (by decide +kernel) (by decide +kernel) (fun _ h => by cases h) (fun _ h => by cases h) (by decide +kernel) (X_indexAddr (j := (d.length - 1 - i)) rfl rfl ty35 ty9 (by first | rfl | omega) (by omega) (Nat.zero_add _)) rfl ?_
        refine WA_one 15 (l' := #[true, true, true, true, true, true, true, true, true, true, true, true, true, true, true, true]) (by decide +kernel) rfl (by decide +kernel) (fun _ h => by cases h) ?_
        refine W_store (l := (e.set i y).map Value.string) (l' := ((e.set i y).set (d.length - 1 - i) x).map Value.string) rfl rfl ty9 rfl rfl (b := b) (by repeat (first | exact List.mem_cons_self | apply List.mem_cons_of_mem | apply List.mem_append_right)) (by rw [Nat.mul_one, List.length_map]; simp; omega) (by rw [Nat.mul_one]; simp only [List.map_set]) (by repeat (first | exact Upd.head _ | apply Upd.tail | apply Upd.app)) ?_
        refine W_nil ?_
        refine WA_goal ?_
        refine WA_done (by decide +kernel) ?_
        refine W_joined (sub_cons rfl (sub_cons rfl (sub_cons rfl (sub_nil _)))) (by repeat (first | with_reducible exact HSub.refl _ | refine HSub.cons (by repeat (first | exact Take.here _ | apply Take.next | apply Take.app)) ?_ | refine HSub.app (by repeat (first | with_reducible exact TakeS.here _ | apply TakeS.next | apply TakeS.app)) ?_ | exact HSub.nil _ | exact HSub.refl _ | refine HSub.drop ?_ | refine HSub.dropS ?_))
    refine W_blk ?_
    refine W_region ?_
    refine W_move rfl rfl ?_
    refine W_bin rfl rfl (b_add (m := ((i + 1 : Nat) : Int)) ((i64w (by omega)).trans (by omega))) rfl ?_
    refine W_move rfl rfl ?_
    refine W_bin rfl rfl (b_sub (m := (d.length : Int) - 1 - ((i + 1 : Nat) : Int)) ((i64w (by omega)).trans (by omega))) rfl ?_
    refine W_assign rfl rfl ?_
    refine W_assign rfl rfl ?_
    refine W_nil ?_
    refine W_again (i + 1, (e.set i y).set (d.length - 1 - i) x) ⟨by show 2 * (i + 1) ≤ d.length; omega, hR.swap (by omega) hx hy⟩ (by show d.length - (i + 1) < d.length - i; omega) (sub_cons rfl (sub_cons rfl (sub_cons rfl (sub_nil _)))) rfl (by repeat (first | with_reducible exact HSub.refl _ | refine HSub.cons (by repeat (first | exact Take.here _ | apply Take.next | apply Take.app)) ?_ | refine HSub.app (by repeat (first | with_reducible exact TakeS.here _ | apply TakeS.next | apply TakeS.app)) ?_ | exact HSub.nil _ | exact HSub.refl _ | refine HSub.drop ?_ | refine HSub.dropS ?_))
  · skip
    refine W_exit rfl ?_
    refine W_end0m Try.results36 (.nil _) (.refl _) ?_
    obtain rfl := hR.over (by omega)
    exact ⟨rfl, rfl⟩
end Go.Proofs.Ytknbohnoiigioaa
