/-
  Own work: contracts of functions that the statement reaches, and plain facts on what they compute; each theorem says its conditions.
-/
import Derived.Test.YtpfoecmianohjaaDoorC4
set_option linter.all false
set_option linter.unusedSimpArgs false
set_option linter.unusedVariables false
namespace Go.Proofs.YtpfoecmianohjaaDoor
open Go Go.Sl
attribute [local irreducible] W

def helpA : List ByteArray := [⟨#[110, 111, 119]⟩, ⟨#[99, 112, 117]⟩, ⟨#[102, 105, 110, 100]⟩, ⟨#[112, 117, 116]⟩, ⟨#[100, 114, 111, 112]⟩, ⟨#[105, 110, 105, 116]⟩, ⟨#[99, 97, 108, 108, 98, 97, 99, 107]⟩, ⟨#[115, 116, 97, 114, 116]⟩, ⟨#[99, 97, 110, 99, 101, 108]⟩, ⟨#[115, 116, 111, 112]⟩, ⟨#[119, 111, 114, 107]⟩, ⟨#[113, 117, 101, 117, 101]⟩, ⟨#[99, 111, 112, 121, 105, 110]⟩, ⟨#[99, 111, 112, 121, 111, 117, 116]⟩, ⟨#[101, 109, 105, 116]⟩, ⟨#[112, 97, 117, 115, 101]⟩]
def helpC : ByteArray := ⟨#[110, 111, 119, 32, 99, 112, 117, 32, 102, 105, 110, 100, 32, 112, 117, 116, 32, 100, 114, 111, 112, 32, 105, 110, 105, 116, 32, 99, 97, 108, 108, 98, 97, 99, 107, 32, 115, 116, 97, 114, 116, 32, 99, 97, 110, 99, 101, 108, 32, 115, 116, 111, 112, 32, 119, 111, 114, 107, 32, 113, 117, 101, 117, 101, 32, 99, 111, 112, 121, 105, 110, 32, 99, 111, 112, 121, 111, 117, 116, 32, 101, 109, 105, 116, 32, 112, 97, 117, 115, 101]⟩
def helpL : List Int := [0, 0, 2, 4, 2, 1, 2, 4, 1, 1, 2, 1, 3, 3, 1, 0]
def helpS : ByteArray := ⟨#[48, 48, 50, 52, 50, 49, 50, 52, 49, 49, 50, 49, 51, 51, 49, 48]⟩
theorem fields_help {w0 : World} {H : Heap} (hT : Tab w0) : LCalls Tryd.prog w0 45 #[.string helpC] H (fun v H' => ∃ b, v = .slice (some ⟨b, 0, none⟩) 16 16 ∧ H' = (b, .cells 9 16 (helpA.map Value.string)) :: H) := by
  have hf : Lib.fields helpC.data.toList = [[110, 111, 119], [99, 112, 117], [102, 105, 110, 100], [112, 117, 116], [100, 114, 111, 112], [105, 110, 105, 116], [99, 97, 108, 108, 98, 97, 99, 107], [115, 116, 97, 114, 116], [99, 97, 110, 99, 101, 108], [115, 116, 111, 112], [119, 111, 114, 107], [113, 117, 101, 117, 101], [99, 111, 112, 121, 105, 110], [99, 111, 112, 121, 111, 117, 116], [101, 109, 105, 116], [112, 97, 117, 115, 101]] := by decide
  have h : ∀ w, Tab w → Calls Tryd.prog 45 #[.string helpC] w fun en w' => en = .returned (.slice (some ⟨w.heap.size, 0, none⟩) 16 16) ∧ w' = w.alloc (.cells (helpA.map Value.string).toArray 9) := fun w ht => by
    have := Tryd.strings_Fields helpC w (by decide) (ascii_of (by decide)) ht
    rw [hf] at this
    exact this
  refine (L_of_alloc (g := fun a => .slice (some a) 16 16) h (fun w hs => tab_of hT hs)).mono ?_
  rintro v H' ⟨b, rfl, rfl⟩
  exact ⟨b, rfl, rfl⟩
theorem args_at : ∀ k : Fin 16, ∃ r, helpS[k.val]? = some r ∧ IntKind.u8.wrap ((r.toNat : Int) - 48) = helpL.getD k.val 0 := by decide +kernel
theorem args_u8 : ∀ k : Fin 16, IntKind.i64.wrap (helpL.getD k.val 0) = helpL.getD k.val 0 := by decide +kernel
def helpB (id : Int) : Bool := decide (1 ≤ id) && decide (id ≤ 16)
def helpN (id : Int) : ByteArray := if helpB id = true then helpA.getD (id - 1).toNat ⟨#[]⟩ else ⟨#[]⟩
def helpG (id : Int) : Int := if helpB id = true then helpL.getD (id - 1).toNat 0 else 0
theorem helpR_in {k : Nat} (h : k < 16) : helpB ((k : Int) + 1) = true ∧ helpN ((k : Int) + 1) = helpA.getD k ⟨#[]⟩ ∧ helpG ((k : Int) + 1) = helpL.getD k 0 := by
  have hb : helpB ((k : Int) + 1) = true := by unfold helpB; simp; omega
  refine ⟨hb, ?_, ?_⟩
  · unfold helpN; rw [if_pos hb]; congr 1; omega
  · unfold helpG; rw [if_pos hb]; congr 1; omega
theorem helpR_out {id : Int} (h : id < 1 ∨ 16 < id) : helpB id = false ∧ helpN id = ⟨#[]⟩ ∧ helpG id = 0 := by
  have hb : helpB id = false := by unfold helpB; simp; omega
  exact ⟨hb, by unfold helpN; rw [hb]; rfl, by unfold helpG; rw [hb]; rfl⟩
set_option maxHeartbeats 1000000 in
theorem helper_pure (id : Int) (hid : I64 id) : Pure Tryd.prog Tab 21 [.int .i64 id] (.tuple #[.string (helpN id), .int .i64 (helpG id), .bool (helpB id)]) := by
  intro w0 H hT
  refine L_enter Tryd.func21 rfl Tryd.ntmps21 rfl rfl ?_
  refine W_sr ?_
  refine W_assign rfl rfl ?_
  refine W_assign rfl rfl ?_
  refine W_assign rfl rfl ?_
  refine W_nil ?_
  refine W_seq ?_
  refine W_sr ?_
  refine W_move rfl rfl ?_
  refine W_bin rfl rfl b_lss rfl ?_
  refine W_move rfl rfl ?_
  apply W_or
  iterate 4 exact rfl
  case h1 =>
    intro hg2
    refine W_gyes rfl rfl ?_
    refine W_move rfl rfl ?_
    refine W_gyes rfl rfl ?_
    refine W_bin rfl rfl b_gtr rfl ?_
    exact W_met rfl (by repeat (first | exact .refl | refine .cons rfl ?_))
  refine W_nil ?_
  refine W_condPS (p := id < 1 ∨ 16 < id) rfl (by simp) (fun c0 => ?_) (fun c0 => ?_)
  · skip
    refine W_sr ?_
    refine W_assign rfl rfl ?_
    refine W_assign rfl rfl ?_
    refine W_assign rfl rfl ?_
    refine W_nil ?_
    refine W_ret3m (H2 := H) Tryd.results21 rfl rfl rfl (.nil _) (by repeat (first | exact HSub.refl _ | refine HSub.cons (by repeat (first | exact Take.here _ | apply Take.next | apply Take.app)) ?_ | refine HSub.app (by repeat (first | exact TakeS.here _ | apply TakeS.next | apply TakeS.app)) ?_ | refine HSub.drop ?_ | refine HSub.dropS ?_ | exact HSub.nil _)) ?_
    obtain ⟨e1, e2, e3⟩ := helpR_out c0
    exact ⟨by rw [e1, e2, e3], rfl⟩
  · skip
    refine W_skip ?_
    refine W_seq ?_
    refine W_any (by kernel_rfl) ?_
    obtain ⟨k, rfl, hk⟩ : ∃ k : Nat, id = (k : Int) + 1 ∧ k < 16 := ⟨(id - 1).toNat, by omega, by omega⟩
    obtain ⟨r, hr, hrv⟩ := args_at ⟨k, hk⟩
    refine WA_take 1 (l' := #[false, true, false, false, false, false, false, false, false, false, false, false, false]) rfl (by decide +kernel) (by decide +kernel) (by decide +kernel) (fun _ h => by cases h) (fun _ h => by cases h) (by decide +kernel) (X_move rfl) rfl ?_
    refine WA_take 2 (l' := #[false, true, true, false, false, false, false, false, false, false, false, false, false]) rfl (by decide +kernel) (by decide +kernel) (by decide +kernel) (fun _ h => by cases h) (fun _ h => by cases h) (by decide +kernel) (X_bin rfl rfl (b_sub (m := (k : Int)) ((i64w (by omega)).trans (by omega)))) rfl ?_
    refine WA_take 5 (l' := #[false, true, true, false, false, true, false, false, false, false, false, false, false]) rfl (by decide +kernel) (by decide +kernel) (by decide +kernel) (fun _ h => by cases h) (fun _ h => by cases h) (by decide +kernel) (X_move rfl) rfl ?_
    refine WA_take 6 (l' := #[false, true, true, false, false, true, true, false, false, false, false, false, false]) rfl (by decide +kernel) (by decide +kernel) (by decide +kernel) (fun _ h => by cases h) (fun _ h => by cases h) (by decide +kernel) (X_bin rfl rfl (b_sub (m := (k : Int)) ((i64w (by omega)).trans (by omega)))) rfl ?_
    refine WA_take 7 (l' := #[false, true, true, false, false, true, true, true, false, false, false, false, false]) rfl (by decide +kernel) (by decide +kernel) (by decide +kernel) (fun _ h => by cases h) (fun _ h => by cases h) (by decide +kernel) (X_indexS (j := k) rfl rfl ty9 rfl hr rfl) rfl ?_
    refine WA_take 8 (l' := #[false, true, true, false, false, true, true, true, true, false, false, false, false]) rfl (by decide +kernel) (by decide +kernel) (by decide +kernel) (fun _ h => by cases h) (fun _ h => by cases h) (by decide +kernel) (X_bin rfl rfl (b_sub hrv)) rfl ?_
    refine WA_take 9 (l' := #[false, true, true, false, false, true, true, true, true, true, false, false, false]) rfl (by decide +kernel) (by decide +kernel) (by decide +kernel) (fun _ h => by cases h) (fun _ h => by cases h) (by decide +kernel) (X_conv rfl ty5 ty3 (args_u8 ⟨k, hk⟩)) rfl ?_
    refine WA_one 0 (l' := #[true, true, true, false, false, true, true, true, true, true, false, false, false]) (by decide +kernel) rfl (by decide +kernel) (fun _ h => by cases h) ?_
    refine W_call (.cons rfl .nil) Tryd.call45 rfl (fields_help hT) ?_
    rintro v H' ⟨bn, rfl, rfl⟩
    refine W_nil ?_
    refine WA_goal ?_
    refine WA_one 3 (l' := #[true, true, true, true, false, true, true, true, true, true, false, false, false]) (by decide +kernel) rfl (by decide +kernel) (fun _ h => by cases h) ?_
    refine W_indexAddr (j := k) rfl rfl ty77 ty9 rfl hk rfl rfl ?_
    refine W_nil ?_
    refine WA_goal ?_
    refine WA_one 4 (l' := #[true, true, true, true, true, true, true, true, true, true, false, false, false]) (by decide +kernel) rfl (by decide +kernel) (fun _ h => by cases h) ?_
    refine W_load rfl ty9 rfl (Cell.own (by repeat (first | exact List.mem_cons_self | apply List.mem_cons_of_mem | apply List.mem_append_right)) (by rw [Nat.zero_add, Nat.mul_one]; exact getD_str (by show k < 16; omega))) rfl ?_
    refine W_nil ?_
    refine WA_goal ?_
    refine WA_one 10 (l' := #[true, true, true, true, true, true, true, true, true, true, true, false, false]) (by decide +kernel) rfl (by decide +kernel) (fun _ h => by cases h) ?_
    refine W_assign rfl rfl ?_
    refine W_nil ?_
    refine WA_goal ?_
    refine WA_one 11 (l' := #[true, true, true, true, true, true, true, true, true, true, true, true, false]) (by decide +kernel) rfl (by decide +kernel) (fun _ h => by cases h) ?_
    refine W_assign rfl rfl ?_
    refine W_nil ?_
    refine WA_goal ?_
    refine WA_one 12 (l' := #[true, true, true, true, true, true, true, true, true, true, true, true, true]) (by decide +kernel) rfl (by decide +kernel) (fun _ h => by cases h) ?_
    refine W_assign rfl rfl ?_
    refine W_nil ?_
    refine WA_goal ?_
    refine WA_done (by decide +kernel) ?_
    refine W_ret3m (H2 := H) Tryd.results21 rfl rfl rfl (.nil _) (by repeat (first | exact HSub.refl _ | refine HSub.cons (by repeat (first | exact Take.here _ | apply Take.next | apply Take.app)) ?_ | refine HSub.app (by repeat (first | exact TakeS.here _ | apply TakeS.next | apply TakeS.app)) ?_ | refine HSub.drop ?_ | refine HSub.dropS ?_ | exact HSub.nil _)) ?_
    obtain ⟨e1, e2, e3⟩ := helpR_in hk
    exact ⟨by rw [e1, e2, e3], rfl⟩
theorem getD_int {l : List Int} {j : Nat} (h : j < l.length) : (l.map fun x => Value.int .i64 x)[j]? = some (.int .i64 (l.getD j 0)) := by
  simp [List.getD, h]
set_option maxHeartbeats 1000000 in
theorem refHelper_pure (id : Int) (hid : I64 id) : Pure Tryd.prog Tab 22 [.int .i64 id] (.tuple #[.string (helpN id), .int .i64 (helpG id), .bool (helpB id)]) := by
  intro w0 H hT
  refine L_enter Tryd.func22 rfl Tryd.ntmps22 rfl rfl ?_
  refine W_sr ?_
  refine W_assign rfl rfl ?_
  refine W_assign rfl rfl ?_
  refine W_assign rfl rfl ?_
  refine W_nil ?_
  refine W_sr ?_
  refine W_buildSlice (l := helpA.map Value.string) ty77 ty9 (.cons rfl rfl rfl rfl rfl (.cons rfl rfl rfl rfl rfl (.cons rfl rfl rfl rfl rfl (.cons rfl rfl rfl rfl rfl (.cons rfl rfl rfl rfl rfl (.cons rfl rfl rfl rfl rfl (.cons rfl rfl rfl rfl rfl (.cons rfl rfl rfl rfl rfl (.cons rfl rfl rfl rfl rfl (.cons rfl rfl rfl rfl rfl (.cons rfl rfl rfl rfl rfl (.cons rfl rfl rfl rfl rfl (.cons rfl rfl rfl rfl rfl (.cons rfl rfl rfl rfl rfl (.cons rfl rfl rfl rfl rfl (.cons rfl rfl rfl rfl rfl .nil)))))))))))))))) rfl rfl rfl rfl rfl rfl rfl (fun b7 => ?_)
  refine W_assign rfl rfl ?_
  refine W_nil ?_
  refine W_sr ?_
  refine W_buildSlice (l := helpL.map fun x => Value.int .i64 x) ty54 ty3 (.cons rfl rfl rfl rfl rfl (.cons rfl rfl rfl rfl rfl (.cons rfl rfl rfl rfl rfl (.cons rfl rfl rfl rfl rfl (.cons rfl rfl rfl rfl rfl (.cons rfl rfl rfl rfl rfl (.cons rfl rfl rfl rfl rfl (.cons rfl rfl rfl rfl rfl (.cons rfl rfl rfl rfl rfl (.cons rfl rfl rfl rfl rfl (.cons rfl rfl rfl rfl rfl (.cons rfl rfl rfl rfl rfl (.cons rfl rfl rfl rfl rfl (.cons rfl rfl rfl rfl rfl (.cons rfl rfl rfl rfl rfl (.cons rfl rfl rfl rfl rfl .nil)))))))))))))))) rfl rfl rfl rfl rfl rfl rfl (fun b8 => ?_)
  refine W_assign rfl rfl ?_
  refine W_nil ?_
  refine W_seq ?_
  refine W_sr ?_
  refine W_move rfl rfl ?_
  refine W_bin rfl rfl b_lss rfl ?_
  refine W_move rfl rfl ?_
  apply W_or
  iterate 4 exact rfl
  case h1 =>
    intro hg2
    refine W_gyes rfl rfl ?_
    refine W_move rfl rfl ?_
    refine W_gyes rfl rfl ?_
    refine W_bin rfl rfl b_gtr rfl ?_
    exact W_met rfl (by repeat (first | exact .refl | refine .cons rfl ?_))
  refine W_nil ?_
  refine W_condPS (p := id < 1 ∨ 16 < id) rfl (by simp) (fun c0 => ?_) (fun c0 => ?_)
  · skip
    refine W_sr ?_
    refine W_assign rfl rfl ?_
    refine W_assign rfl rfl ?_
    refine W_assign rfl rfl ?_
    refine W_nil ?_
    refine W_ret3m (H2 := H) Tryd.results22 rfl rfl rfl (.nil _) (by repeat (first | exact HSub.refl _ | refine HSub.cons (by repeat (first | exact Take.here _ | apply Take.next | apply Take.app)) ?_ | refine HSub.app (by repeat (first | exact TakeS.here _ | apply TakeS.next | apply TakeS.app)) ?_ | refine HSub.drop ?_ | refine HSub.dropS ?_ | exact HSub.nil _)) ?_
    obtain ⟨e1, e2, e3⟩ := helpR_out c0
    exact ⟨by rw [e1, e2, e3], rfl⟩
  · skip
    refine W_skip ?_
    refine W_quietsr (by kernel_rfl) (by decide +kernel) ?_
    obtain ⟨k, rfl, hk⟩ : ∃ k : Nat, id = (k : Int) + 1 ∧ k < 16 := ⟨(id - 1).toNat, by omega, by omega⟩
    refine WQ_x (X_move rfl) rfl ?_
    refine WQ_x (X_move rfl) rfl ?_
    refine WQ_x (X_bin rfl rfl (b_sub (m := (k : Int)) ((i64w (by omega)).trans (by omega)))) rfl ?_
    refine WQ_x (X_indexAddr (j := k) rfl rfl ty77 ty9 rfl hk rfl) rfl ?_
    refine WQ_x (X_load rfl ty9 rfl (Cell.own (by repeat (first | exact List.mem_cons_self | apply List.mem_cons_of_mem | apply List.mem_append_right)) (by rw [Nat.zero_add, Nat.mul_one]; exact getD_str (by show k < 16; omega)))) rfl ?_
    refine WQ_x (X_move rfl) rfl ?_
    refine WQ_x (X_move rfl) rfl ?_
    refine WQ_x (X_bin rfl rfl (b_sub (m := (k : Int)) ((i64w (by omega)).trans (by omega)))) rfl ?_
    refine WQ_x (X_indexAddr (j := k) rfl rfl ty54 ty3 rfl hk rfl) rfl ?_
    refine WQ_x (X_load rfl ty3 rfl (Cell.own (by repeat (first | exact List.mem_cons_self | apply List.mem_cons_of_mem | apply List.mem_append_right)) (by rw [Nat.zero_add, Nat.mul_one]; exact getD_int (by show k < 16; omega)))) rfl ?_
    refine WQ_x (X_assign rfl) rfl ?_
    refine WQ_x (X_assign rfl) rfl ?_
    refine WQ_x (X_assign rfl) rfl ?_
    refine WQ_nil ?_
    refine W_ret3m (H2 := H) Tryd.results22 rfl rfl rfl (.nil _) (by repeat (first | exact HSub.refl _ | refine HSub.cons (by repeat (first | exact Take.here _ | apply Take.next | apply Take.app)) ?_ | refine HSub.app (by repeat (first | exact TakeS.here _ | apply TakeS.next | apply TakeS.app)) ?_ | refine HSub.drop ?_ | refine HSub.dropS ?_ | exact HSub.nil _)) ?_
    obtain ⟨e1, e2, e3⟩ := helpR_in hk
    exact ⟨by rw [e1, e2, e3], rfl⟩
end Go.Proofs.YtpfoecmianohjaaDoor
