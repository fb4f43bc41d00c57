/-
  Own work: contracts of functions that the statement reaches, and plain facts on what they compute; each theorem says its conditions.
-/
import Derived.Test.YtpfoecmianohjaaDoorC5
set_option linter.all false
set_option linter.unusedSimpArgs false
set_option linter.unusedVariables false
namespace Go.Proofs.YtpfoecmianohjaaDoor
open Go Go.Sl
attribute [local irreducible] W

theorem cells_len (x : Ins) : x.cells.length = 5 := rfl
abbrev insRow (l : List Ins) : List Value := l.flatMap Ins.cells
theorem insRow_append (l : List Ins) (x : Ins) : insRow (l ++ [x]) = insRow l ++ x.cells := by simp [insRow]
set_option maxHeartbeats 1000000 in
theorem code_L {w0 : World} {H : Heap} (l : List Ins) (most : Int) {ad : Option Addr} {cap : Nat} (hm : most ≤ 1000) (hrow : Holds w0 H ad (insRow l)) (hT : Tab w0) : LCalls Tryd.prog w0 26 #[.slice ad l.length cap, .int .i64 most] H (fun v H' => ∃ HB, OwnS 67 5 v (l.take most.toNat).length (insRow (l.take most.toNat)) HB ∧ H' = HB ++ H) := by
  refine L_enter (l := [.slice ad l.length cap, .int .i64 most]) Tryd.func26 rfl Tryd.ntmps26 rfl rfl ?_
  refine W_sr ?_
  refine W_assign rfl rfl ?_
  refine W_nil ?_
  refine W_sr ?_
  refine W_assign rfl rfl ?_
  refine W_nil ?_
  refine W_seq ?_
  refine W_sr ?_
  refine W_assign rfl rfl ?_
  refine W_nil ?_
  refine W_block ?_
  refine W_loopD (X := Nat × Value × Heap) (fun | (i, v, _) => [(0, .slice ad l.length cap), (1, .int .i64 most), (5, v), (6, .int .i64 (i : Int))]) (fun _ => []) (fun | (_, _, HB) => HB ++ H) (fun | (i, v, HB) => i ≤ l.length ∧ (i : Int) ≤ max most 0 ∧ OwnS 67 5 v i (insRow (l.take i)) HB) (fun | (i, _, _) => l.length - i) (0, .slice none 0 0, []) ⟨by omega, by omega, .nil⟩ (sub_cons rfl (sub_cons rfl (sub_cons rfl (sub_cons rfl (sub_nil _))))) rfl (by repeat (first | exact HSub.refl _ | refine HSub.cons (by repeat (first | exact Take.here _ | apply Take.next | apply Take.app)) ?_ | refine HSub.app (by repeat (first | exact TakeS.here _ | apply TakeS.next | apply TakeS.app)) ?_ | refine HSub.drop ?_ | refine HSub.dropS ?_ | exact HSub.nil _)) ?_
  rintro ⟨i, v, HB⟩ ⟨hi, him, hO⟩
  simp only
  refine W_seq ?_
  refine W_sr ?_
  refine W_move rfl rfl ?_
  refine W_move rfl rfl ?_
  refine W_len rfl ty43 rfl rfl ?_
  refine W_bin rfl rfl b_lss rfl ?_
  refine W_move rfl rfl ?_
  apply W_and
  iterate 4 exact rfl
  case h1 =>
    intro hg4
    refine W_gyes rfl rfl ?_
    refine W_move rfl rfl ?_
    refine W_gyes rfl rfl ?_
    refine W_move rfl rfl ?_
    refine W_gyes rfl rfl ?_
    refine W_bin rfl rfl b_lss rfl ?_
    exact W_met rfl (by repeat (first | exact .refl | refine .cons rfl ?_))
  refine W_nil ?_
  refine W_condPS (p := (i : Int) < (l.length : Int) ∧ (i : Int) < most) rfl (by simp) (fun c0 => ?_) (fun c0 => ?_)
  · skip
    refine W_skip ?_
    refine W_seq ?_
    refine W_block ?_
    refine W_region ?_
    obtain ⟨x, hx⟩ : ∃ x, l[i]? = some x := ⟨_, List.getElem?_eq_getElem (by omega)⟩
    obtain ⟨b, o, rfl, hc⟩ := hrow.row cells_len (by decide) hx
    refine W_move rfl rfl ?_
    refine W_move rfl rfl ?_
    refine W_move rfl rfl ?_
    refine W_indexAddr (j := i) rfl rfl ty43 ty59 rfl (by omega) rfl rfl ?_
    refine W_loadA rfl ty59 rfl (vs := x.cells) rfl (hc.up (by repeat (first | exact HSub.refl _ | refine HSub.cons (by repeat (first | exact Take.here _ | apply Take.next | apply Take.app)) ?_ | refine HSub.app (by repeat (first | exact TakeS.here _ | apply TakeS.next | apply TakeS.app)) ?_ | refine HSub.drop ?_ | refine HSub.dropS ?_ | exact HSub.nil _))) rfl ?_
    refine W_callp (.cons rfl .nil) Tryd.call53 rfl hT (to_pure _) ?_
    refine W_buildSlice ty48 ty67 (.cons rfl rfl rfl rfl rfl .nil) rfl rfl rfl rfl rfl rfl rfl (fun b24 => ?_)
    refine W_append (news := x.cells) (m := 1) (HB := HB) (H0 := H) rfl rfl ty48 ty67 rfl (by decide) hO rfl (Holds.own List.mem_cons_self) rfl (by simp only [maxLen]; omega) (by omega) (by repeat (first | exact HSub.refl _ | refine HSub.cons (by repeat (first | exact Take.here _ | apply Take.next | apply Take.app)) ?_ | refine HSub.app (by repeat (first | exact TakeS.here _ | apply TakeS.next | apply TakeS.app)) ?_ | refine HSub.drop ?_ | refine HSub.dropS ?_ | exact HSub.nil _)) rfl (fun v' HB' hO' => ?_)
    refine W_assign rfl rfl ?_
    refine W_nil ?_
    refine W_blk ?_
    refine W_region ?_
    refine W_move rfl rfl ?_
    refine W_bin rfl rfl (b_add (m := ((i + 1 : Nat) : Int)) ((i64w (by omega)).trans (by omega))) rfl ?_
    refine W_assign rfl rfl ?_
    refine W_nil ?_
    refine W_again (i + 1, v', HB') ⟨by omega, by omega, by rw [takeAt hx, insRow_append]; exact hO'⟩ (by dsimp only; omega) (sub_cons rfl (sub_cons rfl (sub_cons rfl (sub_cons rfl (sub_nil _))))) rfl (by repeat (first | exact HSub.refl _ | refine HSub.cons (by repeat (first | exact Take.here _ | apply Take.next | apply Take.app)) ?_ | refine HSub.app (by repeat (first | exact TakeS.here _ | apply TakeS.next | apply TakeS.app)) ?_ | refine HSub.drop ?_ | refine HSub.dropS ?_ | exact HSub.nil _))
  · skip
    refine W_exit rfl ?_
    refine W_sr ?_
    refine W_move rfl rfl ?_
    refine W_assign rfl rfl ?_
    refine W_nil ?_
    refine W_ret1m Tryd.results26 rfl (.nil _) (.refl _) ?_
    have e : (l.take most.toNat).length = i := by rw [List.length_take]; omega
    have e2 : l.take most.toNat = l.take i := by
      rw [List.length_take] at e
      by_cases h : most.toNat ≤ l.length
      · rw [show most.toNat = i by omega]
      · rw [List.take_of_length_le (by omega), List.take_of_length_le (by omega)]
    exact ⟨HB, by rw [e, e2]; exact hO, rfl⟩

def bools (l : List Bool) : List Value := l.map .bool
theorem bools_at {l : List Bool} {i : Nat} {x : Bool} (h : l[i]? = some x) : (bools l)[i]? = some (.bool x) := by simp [bools, h]
/-- the word of a list of bools, the first the least -/
def wordN : List Bool → Nat
  | [] => 0
  | b :: l => (if b = true then 1 else 0) + 2 * wordN l
theorem wordN_lt : ∀ l : List Bool, wordN l < 2 ^ l.length
  | [] => by simp [wordN]
  | b :: l => by
    have := wordN_lt l
    simp only [wordN, List.length_cons, Nat.pow_succ]
    split <;> omega
theorem drop_at {α : Type} {l : List α} {i : Nat} {x : α} (h : l[i]? = some x) : l.drop i = x :: l.drop (i + 1) := by
  obtain ⟨hi, e⟩ := List.getElem?_eq_some_iff.1 h
  rw [← e]; exact List.drop_eq_getElem_cons hi
theorem word_lt64 {l : List Bool} (h : l.length ≤ 63) : wordN l ≤ 9223372036854775807 := by
  have h1 := wordN_lt l
  have : 2 ^ l.length ≤ 2 ^ 63 := Nat.pow_le_pow_right (by omega) h
  omega

theorem word_step_t {l : List Bool} {x : Bool} (hx : x = true) (h : wordN l ≤ 9223372036854775807) : IntKind.u64.wrap (IntKind.u64.wrap ((wordN l : Int) * 2) + 1) = ((wordN (x :: l) : Nat) : Int) := by
  subst hx
  rw [u64w (m := (wordN l : Int) * 2) (by omega), u64w (by omega)]
  simp only [wordN, if_true]; omega
theorem word_step_f {l : List Bool} {x : Bool} (hx : x = false) (h : wordN l ≤ 9223372036854775807) : IntKind.u64.wrap ((wordN l : Int) * 2) = ((wordN (x :: l) : Nat) : Int) := by
  subst hx
  rw [u64w (by omega)]
  simp [wordN]; omega
set_option maxHeartbeats 1000000 in
theorem word_q {w0 : World} {H : Heap} (l : List Bool) {ad : Option Addr} {cap : Nat} (hl : l.length = 64) (hrow : Holds w0 H ad (bools l)) (hT : Tab w0) : PureAt Tryd.prog w0 H 31 [.slice ad l.length cap] (.int .u64 ((wordN l : Nat) : Int)) := by
  refine L_enter Tryd.func31 rfl Tryd.ntmps31 rfl rfl ?_
  refine W_sr ?_
  refine W_assign rfl rfl ?_
  refine W_nil ?_
  refine W_sr ?_
  refine W_assign rfl rfl ?_
  refine W_nil ?_
  refine W_seq ?_
  refine W_sr ?_
  refine W_assign rfl rfl ?_
  refine W_nil ?_
  refine W_block ?_
  refine W_loopD (X := Nat) (fun i => [(0, .slice ad l.length cap), (3, .int .u64 ((wordN (l.drop i) : Nat) : Int)), (4, .int .i64 ((i : Int) - 1))]) (fun _ => []) (fun _ => H) (fun i => i ≤ 64) (fun i => i) 64 (by omega) (sub_cons rfl (sub_cons (by rw [List.drop_of_length_le (by omega)]; rfl) (sub_cons rfl (sub_nil _)))) rfl (by repeat (first | exact HSub.refl _ | refine HSub.cons (by repeat (first | exact Take.here _ | apply Take.next | apply Take.app)) ?_ | refine HSub.app (by repeat (first | exact TakeS.here _ | apply TakeS.next | apply TakeS.app)) ?_ | refine HSub.drop ?_ | refine HSub.dropS ?_ | exact HSub.nil _)) ?_
  intro i hi
  refine W_seq ?_
  refine W_sr ?_
  refine W_move rfl rfl ?_
  refine W_bin rfl rfl b_geq rfl ?_
  refine W_nil ?_
  refine W_condPS (p := 0 ≤ (i : Int) - 1) rfl (by simp) (fun c0 => ?_) (fun c0 => ?_)
  · skip
    refine W_skip ?_
    refine W_seq ?_
    refine W_block ?_
    refine W_sr ?_
    obtain ⟨k, rfl⟩ : ∃ k, i = k + 1 := ⟨i - 1, by omega⟩
    obtain ⟨x, hx⟩ : ∃ x, l[k]? = some x := ⟨_, List.getElem?_eq_getElem (by omega)⟩
    obtain ⟨b, o, rfl, hc⟩ := hrow k _ (bools_at hx)
    have hw := word_lt64 (l := l.drop (k + 1)) (by rw [List.length_drop]; omega)
    refine W_move rfl rfl ?_
    refine W_bin rfl rfl (b_mul rfl) rfl ?_
    refine W_assign rfl rfl ?_
    refine W_nil ?_
    refine W_sr ?_
    refine W_move rfl rfl ?_
    refine W_move rfl rfl ?_
    refine W_indexAddr (j := k) rfl rfl ty57 ty4 (by omega) (by omega) rfl rfl ?_
    refine W_load rfl ty4 rfl (by rw [Nat.mul_one]; exact hc) rfl ?_
    refine W_nil ?_
    refine W_condS rfl (fun c1 => ?_) (fun c1 => ?_)
    · skip
      refine W_region ?_
      refine W_move rfl rfl ?_
      refine W_bin rfl rfl (b_add rfl) rfl ?_
      refine W_assign rfl rfl ?_
      refine W_nil ?_
      refine W_blk ?_
      refine W_region ?_
      refine W_move rfl rfl ?_
      refine W_bin rfl rfl (b_sub (m := (k : Int) - 1) ((i64w (by omega)).trans (by omega))) rfl ?_
      refine W_assign rfl rfl ?_
      refine W_nil ?_
      refine W_again k (by omega) (by omega) (sub_cons rfl (sub_cons (by rw [drop_at hx]; exact congrArg (fun z => some (Value.int .u64 z)) (word_step_t c1 hw)) (sub_cons rfl (sub_nil _)))) rfl (by repeat (first | exact HSub.refl _ | refine HSub.cons (by repeat (first | exact Take.here _ | apply Take.next | apply Take.app)) ?_ | refine HSub.app (by repeat (first | exact TakeS.here _ | apply TakeS.next | apply TakeS.app)) ?_ | refine HSub.drop ?_ | refine HSub.dropS ?_ | exact HSub.nil _))
    · skip
      refine W_skip ?_
      refine W_blk ?_
      refine W_region ?_
      refine W_move rfl rfl ?_
      refine W_bin rfl rfl (b_sub (m := (k : Int) - 1) ((i64w (by omega)).trans (by omega))) rfl ?_
      refine W_assign rfl rfl ?_
      refine W_nil ?_
      refine W_again k (by omega) (by omega) (sub_cons rfl (sub_cons (by rw [drop_at hx]; exact congrArg (fun z => some (Value.int .u64 z)) (word_step_f c1 hw)) (sub_cons rfl (sub_nil _)))) rfl (by repeat (first | exact HSub.refl _ | refine HSub.cons (by repeat (first | exact Take.here _ | apply Take.next | apply Take.app)) ?_ | refine HSub.app (by repeat (first | exact TakeS.here _ | apply TakeS.next | apply TakeS.app)) ?_ | refine HSub.drop ?_ | refine HSub.dropS ?_ | exact HSub.nil _))
  · skip
    refine W_exit rfl ?_
    refine W_sr ?_
    refine W_move rfl rfl ?_
    refine W_assign rfl rfl ?_
    refine W_nil ?_
    refine W_ret1m (H2 := H) Tryd.results31 rfl (.nil _) (by repeat (first | exact HSub.refl _ | refine HSub.cons (by repeat (first | exact Take.here _ | apply Take.next | apply Take.app)) ?_ | refine HSub.app (by repeat (first | exact TakeS.here _ | apply TakeS.next | apply TakeS.app)) ?_ | refine HSub.drop ?_ | refine HSub.dropS ?_ | exact HSub.nil _)) ?_
    obtain rfl : i = 0 := by omega
    exact ⟨by rw [List.drop_zero], rfl⟩
end Go.Proofs.YtpfoecmianohjaaDoor
