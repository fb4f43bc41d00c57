/-
  Own work: contracts of functions that the statement reaches, and plain facts on what they compute; each theorem says its conditions.
-/
import Derived.Test.YtkhkagjbeilbgaaDoorTy
import Derived.Test.YtkhkagjbeilbgaaDoorSlPtr
import Derived.WalkSmall
set_option linter.all false
set_option linter.unusedSimpArgs false
set_option linter.unusedVariables false
namespace Go.Proofs.YtkhkagjbeilbgaaDoor
open Go Go.Sl
attribute [local irreducible] W

/-- a word, or a reference -/
structure Va where
  ref : Bool
  m : Int
  slot : Int
  gen : Int
  n : Int
deriving DecidableEq
def zeroV : Va := ⟨false, 0, 0, 0, 0⟩
def vaC (v : Va) : List Value := [.bool v.ref, .int .i64 v.m, .int .i64 v.slot, .int .i64 v.gen, .int .u64 v.n]
abbrev vaRow (l : List Va) : List Value := l.flatMap vaC
theorem va_len (v : Va) : (vaC v).length = 5 := rfl
theorem vaRow_len (l : List Va) : (vaRow l).length = l.length * 5 := flat_length va_len l
theorem va_at {l : List Va} {i : Nat} {x : Va} (h : l[i]? = some x) : ((vaRow l).drop (i * 5)).take 5 = vaC x := by
  refine List.ext_getElem? fun j => ?_
  by_cases hj : j < 5
  · rw [List.getElem?_take_of_lt hj, List.getElem?_drop]
    have hv : (vaC x)[j]? = some ((vaC x)[j]'(by rw [va_len]; exact hj)) := List.getElem?_eq_getElem _
    rw [flat_at va_len h j _ hv, hv]
  · rw [List.getElem?_eq_none (by rw [List.length_take]; omega), List.getElem?_eq_none (by rw [va_len]; omega)]
theorem va_set : ∀ {l : List Va} {i : Nat} (x : Va), i < l.length → spliceL (vaRow l) (i * 5) (vaC x) = vaRow (l.set i x)
  | [], _, _, h => by simp at h
  | y :: l, 0, x, _ => by simp [spliceL, vaRow, vaC]
  | y :: l, i + 1, x, h => by
    have ih := va_set (l := l) (i := i) x (by simpa using h)
    unfold spliceL at ih ⊢
    have e1 : vaRow (y :: l) = vaC y ++ vaRow l := rfl
    have e2 : vaRow ((y :: l).set (i + 1) x) = vaC y ++ vaRow (l.set i x) := rfl
    rw [e1, e2, ← ih, show (i + 1) * 5 = 5 + i * 5 by omega, List.take_append, List.drop_append]
    simp only [va_len]
    rw [List.take_of_length_le (by rw [va_len]; omega), show 5 + i * 5 - 5 = i * 5 by omega, List.drop_of_length_le (by rw [va_len]; omega), show 5 + i * 5 + 5 - 5 = i * 5 + 5 by omega]
    simp
set_option maxHeartbeats 1000000 in
theorem all_pure (bf : Nat) (s : Bool) : Pure Tryd.prog (fun _ => True) 97 [.pointer (some ⟨bf, 0, none⟩), .bool s] (.tuple #[.slice (some ⟨bf, if s then 50 else 0, none⟩) (if s then 8 else 10) (if s then 8 else 10), .int .i64 0]) := by
  intro w0 H hT
  refine L_enter Tryd.func97 rfl Tryd.ntmps97 rfl rfl ?_
  refine W_sr ?_
  refine W_assign rfl rfl ?_
  refine W_assign rfl rfl ?_
  refine W_nil ?_
  refine W_seq ?_
  refine W_block ?_
  refine W_sr ?_
  refine W_move rfl rfl ?_
  refine W_x (X_ptrNil rfl rfl ty37) (fun _ h => by cases h) rfl ?_
  refine W_assign rfl rfl ?_
  refine W_nil ?_
  refine W_condF rfl rfl ?_
  refine W_sr ?_
  refine W_move rfl rfl ?_
  refine W_assign rfl rfl ?_
  refine W_nil ?_
  refine W_condS rfl (fun c0 => ?_) (fun c0 => ?_)
  · skip
    refine W_sr ?_
    refine W_move rfl rfl ?_
    refine W_nilCheck rfl rfl ?_
    refine W_fieldAddr rfl fld130_1 (by decide) rfl ?_
    refine W_x (X_sliceArr rfl ty128 ty50 rfl rfl (by decide) (by decide) (by decide)) (fun _ h => by cases h) rfl ?_
    refine W_assign rfl rfl ?_
    refine W_assign rfl rfl ?_
    refine W_nil ?_
    refine W_ret2m Tryd.results97 rfl rfl (.nil _) (.refl _) ?_
    subst_vars
    exact ⟨by simp [*], rfl⟩
  · skip
    refine W_skip ?_
    refine W_blk ?_
    refine W_sr ?_
    refine W_move rfl rfl ?_
    refine W_nilCheck rfl rfl ?_
    refine W_fieldAddr rfl fld130_0 (by decide) rfl ?_
    refine W_x (X_sliceArr rfl ty127 ty50 rfl rfl (by decide) (by decide) (by decide)) (fun _ h => by cases h) rfl ?_
    refine W_assign rfl rfl ?_
    refine W_assign rfl rfl ?_
    refine W_nil ?_
    refine W_ret2m Tryd.results97 rfl rfl (.nil _) (.refl _) ?_
    subst_vars
    exact ⟨by simp [*], rfl⟩
set_option maxHeartbeats 1000000 in
theorem all_nil (s : Bool) : Pure Tryd.prog (fun _ => True) 97 [.pointer none, .bool s] (.tuple #[.slice none 0 0, .int .i64 6]) := by
  intro w0 H hT
  refine L_enter Tryd.func97 rfl Tryd.ntmps97 rfl rfl ?_
  refine W_sr ?_
  refine W_assign rfl rfl ?_
  refine W_assign rfl rfl ?_
  refine W_nil ?_
  refine W_seq ?_
  refine W_block ?_
  refine W_sr ?_
  refine W_move rfl rfl ?_
  refine W_x (X_ptrNil rfl rfl ty37) (fun _ h => by cases h) rfl ?_
  refine W_assign rfl rfl ?_
  refine W_nil ?_
  refine W_condT rfl rfl ?_
  refine W_sr ?_
  refine W_assign rfl rfl ?_
  refine W_assign rfl rfl ?_
  refine W_nil ?_
  refine W_ret2m Tryd.results97 rfl rfl (.nil _) (.refl _) ?_
  exact ⟨rfl, rfl⟩
set_option maxHeartbeats 1000000 in
theorem get1_L {w0 : World} {H : Heap} {bf bo i : Nat} {V : List Va} {x y : Va} (hx : V[i]? = some x) (hV : V.length = 18)  : LCalls Tryd.prog w0 99 #[.pointer (some ⟨bf, i * 5, none⟩), .pointer (some ⟨bo, 0, none⟩)] ((bo, .cells 50 5 (vaC y)) :: (bf, .cells 130 90 (vaRow V)) :: H) (fun _ H' => H' = (bo, .cells 50 5 (vaC x)) :: (bf, .cells 130 90 (vaRow V)) :: H) := by
  refine L_enter (l := [.pointer (some ⟨bf, i * 5, none⟩), .pointer (some ⟨bo, 0, none⟩)]) Tryd.func99 rfl Tryd.ntmps99 rfl rfl ?_
  refine W_region ?_
  refine W_move rfl rfl ?_
  refine W_nilCheck rfl rfl ?_
  have hi := (List.getElem?_eq_some_iff.1 hx).1
  refine W_loadB (vs := vaC x) rfl ty50 rfl (by repeat (first | exact List.mem_cons_self | apply List.mem_cons_of_mem | apply List.mem_append_right)) (by rw [vaRow_len, Nat.ble_eq]; omega) (va_at hx) rfl ?_
  refine W_storeA rfl rfl ty50 rfl rfl (by repeat (first | exact List.mem_cons_self | apply List.mem_cons_of_mem | apply List.mem_append_right)) (Nat.le_of_ble_eq_true rfl) (by simp only [fillL, spliceL, Value.cells, List.take_zero, List.take_succ_cons, List.take_nil, List.drop_zero, List.drop_succ_cons, List.drop_nil, List.nil_append, List.cons_append, List.append_nil, List.length_cons, List.length_nil, Nat.zero_add, Nat.reduceAdd, List.toList_toArray]; rfl) (by repeat (first | exact Upd.head _ | apply Upd.tail | apply Upd.app)) ?_
  refine W_nil ?_
  refine W_end0m Tryd.results99 (.nil _) (.refl _) ?_
  rfl
set_option maxHeartbeats 1000000 in
theorem set1_L {w0 : World} {H : Heap} {bf bx i : Nat} {V : List Va} {x : Va} (hi : i < V.length) (hV : V.length = 18)  : LCalls Tryd.prog w0 100 #[.pointer (some ⟨bf, i * 5, none⟩), .pointer (some ⟨bx, 0, none⟩)] ((bx, .cells 50 5 (vaC x)) :: (bf, .cells 130 90 (vaRow V)) :: H) (fun _ H' => H' = (bx, .cells 50 5 (vaC x)) :: (bf, .cells 130 90 (vaRow (V.set i x))) :: H) := by
  refine L_enter (l := [.pointer (some ⟨bf, i * 5, none⟩), .pointer (some ⟨bx, 0, none⟩)]) Tryd.func100 rfl Tryd.ntmps100 rfl rfl ?_
  refine W_region ?_
  refine W_move rfl rfl ?_
  refine W_loadB (vs := vaC x) rfl ty50 rfl (by repeat (first | exact List.mem_cons_self | apply List.mem_cons_of_mem | apply List.mem_append_right)) rfl rfl rfl ?_
  refine W_nilCheck rfl rfl ?_
  refine W_storeA rfl rfl ty50 rfl rfl (b := bf) (by repeat (first | exact List.mem_cons_self | apply List.mem_cons_of_mem | apply List.mem_append_right)) (by rw [vaRow_len]; omega) (va_set x hi) (by repeat (first | exact Upd.head _ | apply Upd.tail | apply Upd.app)) ?_
  refine W_nil ?_
  refine W_end0m Tryd.results100 (.nil _) (.refl _) ?_
  rfl
set_option maxHeartbeats 1000000 in
theorem in_get {w0 : World} {H : Heap} {bf bo base len cap : Nat} {V : List Va} {y : Va} {at_ : Int} {f : Nat → Va} (hx : ∀ j, j < len → V[base + j]? = some (f j)) (hV : V.length = 18)  : LCalls Tryd.prog w0 98 #[.slice (some ⟨bf, base * 5, none⟩) len cap, .int .i64 at_, .func (.func 99) #[] #[.pointer (some ⟨bo, 0, none⟩)]] ((bo, .cells 50 5 (vaC y)) :: (bf, .cells 130 90 (vaRow V)) :: H) (fun v H' => (at_ < 0 ∨ (len : Int) ≤ at_) ∧ v = .int .i64 2 ∧ H' = (bo, .cells 50 5 (vaC y)) :: (bf, .cells 130 90 (vaRow V)) :: H ∨ (∃ j : Nat, at_ = j ∧ j < len ∧ v = .int .i64 0 ∧ H' = (bo, .cells 50 5 (vaC (f j))) :: (bf, .cells 130 90 (vaRow V)) :: H)) := by
  refine L_enter (l := [.slice (some ⟨bf, base * 5, none⟩) len cap, .int .i64 at_, .func (.func 99) #[] #[.pointer (some ⟨bo, 0, none⟩)]]) Tryd.func98 rfl Tryd.ntmps98 rfl rfl ?_
  refine W_sr ?_
  refine W_assign rfl rfl ?_
  refine W_nil ?_
  refine W_seq ?_
  refine W_sr ?_
  refine W_move rfl rfl ?_
  refine W_bin rfl rfl b_lss rfl ?_
  refine W_move rfl rfl ?_
  apply W_or
  iterate 4 exact rfl
  case h1 =>
    intro hg2
    refine W_gyes rfl rfl ?_
    refine W_move rfl rfl ?_
    refine W_gyes rfl rfl ?_
    refine W_move rfl rfl ?_
    refine W_gyes rfl rfl ?_
    refine W_len rfl ty40 rfl rfl ?_
    refine W_gyes rfl rfl ?_
    refine W_bin rfl rfl b_geq rfl ?_
    exact W_met rfl (by repeat (first | exact .refl | refine .cons rfl ?_))
  refine W_nil ?_
  refine W_condPS (p := at_ < 0 ∨ (len : Int) ≤ at_) rfl (by simp) (fun c0 => ?_) (fun c0 => ?_)
  · skip
    refine W_sr ?_
    refine W_assign rfl rfl ?_
    refine W_nil ?_
    refine W_ret1m Tryd.results98 rfl (.nil _) (.refl _) ?_
    exact .inl ⟨c0, rfl, rfl⟩
  · skip
    refine W_skip ?_
    refine W_sr ?_
    obtain ⟨j, hj⟩ : ∃ j : Nat, at_ = (j : Int) := ⟨at_.toNat, by omega⟩
    subst hj
    refine W_move rfl rfl ?_
    refine W_move rfl rfl ?_
    refine W_move rfl rfl ?_
    refine W_indexAddr (j := j) (at_ := (base + j) * 5) rfl rfl ty40 ty50 rfl (by omega) (by rw [Nat.add_mul]) rfl ?_
    refine W_callv rfl (.cons rfl .nil) Tryd.call99 rfl (get1_L (bf := bf) (bo := bo) (y := y) (hx j (by omega)) hV) ?_
    rintro v H' rfl
    refine W_nil ?_
    refine W_sr ?_
    refine W_assign rfl rfl ?_
    refine W_nil ?_
    refine W_ret1m Tryd.results98 rfl (.nil _) (.refl _) ?_
    exact .inr ⟨j, rfl, by omega, rfl, rfl⟩
set_option maxHeartbeats 1000000 in
theorem in_set {w0 : World} {H : Heap} {bf bx base len cap : Nat} {V : List Va} {x : Va} {at_ : Int} (hb : base + len ≤ V.length) (hV : V.length = 18)  : LCalls Tryd.prog w0 98 #[.slice (some ⟨bf, base * 5, none⟩) len cap, .int .i64 at_, .func (.func 100) #[] #[.pointer (some ⟨bx, 0, none⟩)]] ((bx, .cells 50 5 (vaC x)) :: (bf, .cells 130 90 (vaRow V)) :: H) (fun v H' => (at_ < 0 ∨ (len : Int) ≤ at_) ∧ v = .int .i64 2 ∧ H' = (bx, .cells 50 5 (vaC x)) :: (bf, .cells 130 90 (vaRow V)) :: H ∨ (∃ j : Nat, at_ = j ∧ j < len ∧ v = .int .i64 0 ∧ H' = (bx, .cells 50 5 (vaC x)) :: (bf, .cells 130 90 (vaRow (V.set (base + j) x))) :: H)) := by
  refine L_enter (l := [.slice (some ⟨bf, base * 5, none⟩) len cap, .int .i64 at_, .func (.func 100) #[] #[.pointer (some ⟨bx, 0, none⟩)]]) Tryd.func98 rfl Tryd.ntmps98 rfl rfl ?_
  refine W_sr ?_
  refine W_assign rfl rfl ?_
  refine W_nil ?_
  refine W_seq ?_
  refine W_sr ?_
  refine W_move rfl rfl ?_
  refine W_bin rfl rfl b_lss rfl ?_
  refine W_move rfl rfl ?_
  apply W_or
  iterate 4 exact rfl
  case h1 =>
    intro hg2
    refine W_gyes rfl rfl ?_
    refine W_move rfl rfl ?_
    refine W_gyes rfl rfl ?_
    refine W_move rfl rfl ?_
    refine W_gyes rfl rfl ?_
    refine W_len rfl ty40 rfl rfl ?_
    refine W_gyes rfl rfl ?_
    refine W_bin rfl rfl b_geq rfl ?_
    exact W_met rfl (by repeat (first | exact .refl | refine .cons rfl ?_))
  refine W_nil ?_
  refine W_condPS (p := at_ < 0 ∨ (len : Int) ≤ at_) rfl (by simp) (fun c0 => ?_) (fun c0 => ?_)
  · skip
    refine W_sr ?_
    refine W_assign rfl rfl ?_
    refine W_nil ?_
    refine W_ret1m Tryd.results98 rfl (.nil _) (.refl _) ?_
    exact .inl ⟨c0, rfl, rfl⟩
  · skip
    refine W_skip ?_
    refine W_sr ?_
    obtain ⟨j, hj⟩ : ∃ j : Nat, at_ = (j : Int) := ⟨at_.toNat, by omega⟩
    subst hj
    refine W_move rfl rfl ?_
    refine W_move rfl rfl ?_
    refine W_move rfl rfl ?_
    refine W_indexAddr (j := j) (at_ := (base + j) * 5) rfl rfl ty40 ty50 rfl (by omega) (by rw [Nat.add_mul]) rfl ?_
    refine W_callv rfl (.cons rfl .nil) Tryd.call100 rfl (set1_L (bf := bf) (bx := bx) (x := x) (i := base + j) (by omega) hV) ?_
    rintro v H' rfl
    refine W_nil ?_
    refine W_sr ?_
    refine W_assign rfl rfl ?_
    refine W_nil ?_
    refine W_ret1m Tryd.results98 rfl (.nil _) (.refl _) ?_
    exact .inr ⟨j, rfl, by omega, rfl, rfl⟩
end Go.Proofs.YtkhkagjbeilbgaaDoor
