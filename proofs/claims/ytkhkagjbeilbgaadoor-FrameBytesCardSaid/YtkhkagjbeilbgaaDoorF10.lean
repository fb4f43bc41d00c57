/-
  Own work: contracts of functions that the statement reaches, and plain facts on what they compute; each theorem says its conditions.
-/
import Derived.Test.YtkhkagjbeilbgaaDoorF9
import Derived.Test.YtkhkagjbeilbgaaDoorSlLoop
set_option linter.all false
set_option linter.unusedSimpArgs false
set_option linter.unusedVariables false
namespace Go.Proofs.YtkhkagjbeilbgaaDoor
open Go Go.Sl
attribute [local irreducible] W

theorem take_snoc {l : List Va} {i : Nat} {y : Va} (h : l[i]? = some y) : vaRow (l.take (i + 1)) = vaRow (l.take i) ++ vaC y := by
  rw [List.take_add_one, h]
  simp [vaRow]
set_option maxHeartbeats 1000000 in
theorem Tos_L {w0 : World} {H : Heap} {l : List Va} {ad : Option Addr} {cap : Nat} (hl : l.length ≤ 1000) (hrow : Holds w0 H ad (vaRow l))  : LCalls Tryd.prog w0 20 #[.slice ad l.length cap] (H) (fun v H' => ∃ HB, OwnS 50 5 v l.length (vaRow l) HB ∧ H' = HB ++ H) := by
  refine L_enter (l := [.slice ad l.length cap]) Tryd.func20 rfl Tryd.ntmps20 rfl rfl ?_
  refine W_sr ?_
  refine W_assign rfl rfl ?_
  refine W_nil ?_
  refine W_sr ?_
  refine W_assign rfl rfl ?_
  refine W_nil ?_
  refine W_seq ?_
  refine W_sr ?_
  refine W_assign rfl rfl ?_
  refine W_nil ?_
  refine W_block ?_
  refine W_loopC (X := (Nat × Value × Heap)) [(0, _)] (fun (x : (Nat × Value × Heap)) => [(3, x.2.1), (4, .int .i64 (x.1 : Int))]) (fun _ => _) (fun (x : (Nat × Value × Heap)) => x.2.2 ++ H) (fun (x : (Nat × Value × Heap)) => x.1 ≤ l.length ∧ OwnS 50 5 x.2.1 x.1 (vaRow (l.take x.1)) x.2.2) (fun (x : (Nat × Value × Heap)) => l.length - x.1) (0, .slice none 0 0, []) ⟨Nat.zero_le _, .nil⟩ (sub_cons rfl (sub_nil _)) (sub_cons rfl (sub_cons rfl (sub_nil _))) rfl (HSub.refl _) ?_
  rintro ⟨i, xv, XB⟩ ⟨hi, hX⟩
  dsimp only at hi hX ⊢
  simp only [List.cons_append, List.nil_append]
  refine W_seq ?_
  refine W_sr ?_
  refine W_move rfl rfl ?_
  refine W_move rfl rfl ?_
  refine W_len rfl ty35 rfl rfl ?_
  refine W_bin rfl rfl b_lss rfl ?_
  refine W_nil ?_
  refine W_condPS (p := (i : Int) < (l.length : Int)) rfl (by simp) (fun c0 => ?_) (fun c0 => ?_)
  · skip
    refine W_skip ?_
    refine W_seq ?_
    refine W_block ?_
    refine W_region ?_
    obtain ⟨y, hy⟩ : ∃ y, l[i]? = some y := ⟨_, List.getElem?_eq_getElem (by omega)⟩
    obtain ⟨q0, p0, rfl, hcy⟩ := hrow.row va_len (by decide) hy
    refine W_move rfl rfl ?_
    refine W_move rfl rfl ?_
    refine W_move rfl rfl ?_
    refine W_indexAddr (j := i) rfl rfl ty35 ty55 (by first | rfl | omega) (by first | decide | omega | simp) rfl rfl ?_
    refine W_loadA rfl ty55 rfl (vs := vaC y) rfl (hcy.up (by repeat (first | with_reducible exact HSub.refl _ | refine HSub.cons (by repeat (first | exact Take.here _ | apply Take.next | apply Take.app)) ?_ | refine HSub.app (by repeat (first | with_reducible exact TakeS.here _ | apply TakeS.next | apply TakeS.app)) ?_ | exact HSub.nil _ | exact HSub.refl _ | refine HSub.drop ?_ | refine HSub.dropS ?_))) rfl ?_
    refine W_callp (.cons rfl .nil) Tryd.call25 rfl (T := fun _ => True) trivial (To_pure y) ?_
    refine W_buildSlice (l := vaC y) ty40 ty50 (.cons rfl rfl rfl rfl rfl .nil) rfl rfl rfl rfl rfl rfl rfl (fun b17 => ?_)
    refine W_append (news := vaC y) (m := 1) (HB := XB) (H0 := H) rfl rfl ty40 ty50 rfl (by decide) hX rfl (Holds.own List.mem_cons_self) rfl (by simp only [maxLen]; omega) (by omega) (by repeat (first | with_reducible exact HSub.refl _ | refine HSub.cons (by repeat (first | exact Take.here _ | apply Take.next | apply Take.app)) ?_ | refine HSub.app (by repeat (first | with_reducible exact TakeS.here _ | apply TakeS.next | apply TakeS.app)) ?_ | exact HSub.nil _ | exact HSub.refl _ | refine HSub.drop ?_ | refine HSub.dropS ?_)) rfl (fun v' HB' hO' => ?_)
    refine W_assign rfl rfl ?_
    refine W_nil ?_
    refine W_blk ?_
    refine W_region ?_
    refine W_move rfl rfl ?_
    refine W_bin rfl rfl (b_add (m := ((i + 1 : Nat) : Int)) ((i64w (by omega)).trans (by omega))) rfl ?_
    refine W_assign rfl rfl ?_
    refine W_nil ?_
    refine W_again (i + 1, v', HB') ⟨by show i + 1 ≤ l.length; omega, by show OwnS 50 5 v' (i + 1) (vaRow (l.take (i + 1))) HB'; rw [take_snoc hy]; exact hO'⟩ (by show l.length - (i + 1) < l.length - i; omega) (sub_cons rfl (sub_cons rfl (sub_cons rfl (sub_nil _)))) rfl (by repeat (first | with_reducible exact HSub.refl _ | refine HSub.cons (by repeat (first | exact Take.here _ | apply Take.next | apply Take.app)) ?_ | refine HSub.app (by repeat (first | with_reducible exact TakeS.here _ | apply TakeS.next | apply TakeS.app)) ?_ | exact HSub.nil _ | exact HSub.refl _ | refine HSub.drop ?_ | refine HSub.dropS ?_))
  · skip
    refine W_exit rfl ?_
    refine W_sr ?_
    refine W_move rfl rfl ?_
    refine W_assign rfl rfl ?_
    refine W_nil ?_
    refine W_ret1m (H2 := XB ++ H) Tryd.results20 rfl (.nil _) (by repeat (first | with_reducible exact HSub.refl _ | refine HSub.cons (by repeat (first | exact Take.here _ | apply Take.next | apply Take.app)) ?_ | refine HSub.app (by repeat (first | with_reducible exact TakeS.here _ | apply TakeS.next | apply TakeS.app)) ?_ | exact HSub.nil _ | exact HSub.refl _ | refine HSub.drop ?_ | refine HSub.dropS ?_)) ?_
    obtain rfl : i = l.length := by omega
    rw [List.take_length] at hX
    exact ⟨XB, hX, rfl⟩
end Go.Proofs.YtkhkagjbeilbgaaDoor
