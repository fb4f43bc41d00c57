/-
  Own work: contracts of functions that the statement reaches, and plain facts on what they compute; each theorem says its conditions.
-/
import Derived.Test.YtkhkagjbeilbgaaDoorF17
set_option linter.all false
set_option linter.unusedSimpArgs false
set_option linter.unusedVariables false
namespace Go.Proofs.YtkhkagjbeilbgaaDoor
open Go Go.Sl
attribute [local irreducible] W
open Go.Script (lowL numL Bytes lowL_len lowL_bytes numL_nonneg numL_lt low_num)

/-- bytes of words -/
def wordsB (ws : List Va) : List Int := ws.flatMap fun v => lowL v.n 8
theorem wordsB_len (ws : List Va) : (wordsB ws).length = ws.length * 8 := by
  induction ws with
  | nil => rfl
  | cons v ws ih => show (lowL v.n 8 ++ wordsB ws).length = _; rw [List.length_append, lowL_len, ih, List.length_cons]; omega
theorem wordsB_snoc {V : List Va} {a i : Nat} (h : a + i < V.length) : wordsB ((V.drop a).take (i + 1)) = wordsB ((V.drop a).take i) ++ lowL (V.getD (a + i) zeroV).n 8 := by
  have e : (V.drop a).take (i + 1) = (V.drop a).take i ++ [V.getD (a + i) zeroV] := by
    rw [List.take_add_one, List.getElem?_drop, List.getElem?_eq_getElem h]
    simp [List.getD, h]
  rw [e]; simp [wordsB]
theorem any_snoc {V : List Va} {a i : Nat} (h : a + i < V.length) : ((V.drop a).take (i + 1)).any Va.ref = (((V.drop a).take i).any Va.ref || (V.getD (a + i) zeroV).ref) := by
  have e : (V.drop a).take (i + 1) = (V.drop a).take i ++ [V.getD (a + i) zeroV] := by
    rw [List.take_add_one, List.getElem?_drop, List.getElem?_eq_getElem h]
    simp [List.getD, h]
  rw [e]; simp
theorem any_more {V : List Va} {a i n : Nat} (h : a + n ≤ V.length) (hi : i < n) (hr : (V.getD (a + i) zeroV).ref = true) : ((V.drop a).take n).any Va.ref = true := by
  rw [List.any_eq_true]
  refine ⟨V.getD (a + i) zeroV, ?_, hr⟩
  have hl : a + i < V.length := by omega
  have : ((V.drop a).take n)[i]? = some (V.getD (a + i) zeroV) := by
    rw [List.getElem?_take_of_lt hi, List.getElem?_drop, List.getElem?_eq_getElem hl]
    simp [List.getD, hl]
  exact List.mem_of_getElem? this
/-- what reading so many words gives -/
def rdB (V : List Va) (a n : Nat) : List Int × Int := if ((V.drop (10 + a)).take n).any Va.ref then ([], 17) else (wordsB ((V.drop (10 + a)).take n), 0)
set_option maxHeartbeats 1000000 in
theorem read_L {w0 : World} {H : Heap} {bf : Nat} {V : List Va} {an nn : Nat} (hV : V.length = 18) (hb : an + nn ≤ 8)  : LCalls Tryd.prog w0 34 #[.pointer (some ⟨bf, 0, none⟩), .int .i64 (an : Int), .int .i64 (nn : Int)] ((bf, .cells 130 90 (vaRow V)) :: H) (fun v H' => ∃ sv HB, v = .tuple #[sv, .int .i64 (rdB V an nn).2] ∧ OwnS 5 1 sv (rdB V an nn).1.length (byV (rdB V an nn).1) HB ∧ H' = HB ++ (bf, .cells 130 90 (vaRow V)) :: H) := by
  refine L_enter (l := [.pointer (some ⟨bf, 0, none⟩), .int .i64 (an : Int), .int .i64 (nn : Int)]) Tryd.func34 rfl Tryd.ntmps34 rfl rfl ?_
  refine W_sr ?_
  refine W_assign rfl rfl ?_
  refine W_assign rfl rfl ?_
  refine W_nil ?_
  refine W_sr ?_
  refine W_move rfl rfl ?_
  refine W_move rfl rfl ?_
  refine W_move rfl rfl ?_
  refine W_callp (.cons rfl (.cons rfl (.cons rfl .nil))) Tryd.call73 rfl (T := fun _ => True) trivial (words_ok _ hb) ?_
  refine W_move rfl rfl ?_
  refine W_extract rfl rfl rfl ?_
  refine W_extract rfl rfl rfl ?_
  refine W_assign rfl rfl ?_
  refine W_assign rfl rfl ?_
  refine W_nil ?_
  refine W_seq ?_
  refine W_sr ?_
  refine W_move rfl rfl ?_
  refine W_bin rfl rfl b_neq rfl ?_
  refine W_nil ?_
  refine W_condF rfl rfl ?_
  refine W_skip ?_
  refine W_sr ?_
  refine W_assign rfl rfl ?_
  refine W_nil ?_
  refine W_seq ?_
  refine W_sr ?_
  refine W_move rfl rfl ?_
  refine W_len rfl ty40 rfl rfl ?_
  refine W_move rfl rfl ?_
  refine W_nil ?_
  refine W_block ?_
  refine W_loopC (X := (Nat × Value × Heap)) [(24, _), (25, _)] (fun (x : (Nat × Value × Heap)) => [(10, x.2.1), (26, .int .i64 (x.1 : Int))]) (fun _ => _) (fun (x : (Nat × Value × Heap)) => x.2.2 ++ ((bf, .cells 130 90 (vaRow V)) :: H)) (fun (x : (Nat × Value × Heap)) => x.1 ≤ nn ∧ ((V.drop (10 + an)).take (x.1)).any Va.ref = false ∧ OwnS 5 1 x.2.1 (x.1 * 8) (byV (wordsB ((V.drop (10 + an)).take (x.1)))) x.2.2) (fun (x : (Nat × Value × Heap)) => nn - x.1) (0, .slice none 0 0, []) ⟨Nat.zero_le _, by rw [List.take_zero]; rfl, by rw [List.take_zero, Nat.zero_mul]; exact .nil⟩ (sub_cons rfl (sub_cons rfl (sub_nil _))) (sub_cons rfl (sub_cons rfl (sub_nil _))) rfl (by repeat (first | with_reducible exact HSub.refl _ | refine HSub.cons (by repeat (first | exact Take.here _ | apply Take.next | apply Take.app)) ?_ | refine HSub.app (by repeat (first | with_reducible exact TakeS.here _ | apply TakeS.next | apply TakeS.app)) ?_ | exact HSub.nil _ | exact HSub.refl _ | refine HSub.drop ?_ | refine HSub.dropS ?_)) ?_
  rintro ⟨i, xv, XB⟩ ⟨hi, hno, hX⟩
  dsimp only at hi hno hX ⊢
  simp only [List.cons_append, List.nil_append]
  refine W_sr ?_
  refine W_bin rfl rfl b_lss rfl ?_
  refine W_nil ?_
  refine W_seq ?_
  refine W_condPS (p := (i : Int) < (nn : Int)) rfl (by simp) (fun c0 => ?_) (fun c0 => ?_)
  · skip
    refine W_skip ?_
    refine W_seq ?_
    refine W_block ?_
    refine W_sr ?_
    refine W_indexAddr (j := i) rfl rfl ty40 ty50 (by first | rfl | omega) (by first | decide | omega | simp) rfl rfl ?_
    refine W_loadB (vs := vaC (V.getD (10 + an + i) zeroV)) rfl ty50 rfl (b := bf) (by repeat (first | exact List.mem_cons_self | apply List.mem_cons_of_mem | apply List.mem_append_right)) (by rw [vaRow_len, wOff_at hb (by omega), Nat.ble_eq]; omega) (by rw [wOff_at hb (by omega)]; exact va_at (getV hV (i := 10 + an + i) (by omega))) rfl ?_
    refine W_alloc ty50 rfl rfl (fun b12 => ?_)
    refine W_storeA (l' := vaC (V.getD (10 + an + i) zeroV)) rfl rfl ty50 rfl rfl (b := b12) (by repeat (first | exact List.mem_cons_self | apply List.mem_cons_of_mem | apply List.mem_append_right)) (by exact Nat.le_refl 5) rfl (by repeat (first | exact Upd.head _ | apply Upd.tail | apply Upd.app)) ?_
    refine W_nil ?_
    refine W_seq ?_
    refine W_sr ?_
    refine W_fieldAddr rfl fld50_0 (by decide) rfl ?_
    refine W_load rfl ty4 rfl (Cell.own (b := b12) (by repeat (first | exact List.mem_cons_self | apply List.mem_cons_of_mem | apply List.mem_append_right)) rfl) rfl ?_
    refine W_nil ?_
    refine W_condS rfl (fun c1 => ?_) (fun c1 => ?_)
    · skip
      refine W_sr ?_
      refine W_assign rfl rfl ?_
      refine W_assign rfl rfl ?_
      refine W_nil ?_
      refine W_ret2m (H2 := (bf, .cells 130 90 (vaRow V)) :: H) Tryd.results34 rfl rfl (.nil _) (by repeat (first | with_reducible exact HSub.refl _ | refine HSub.cons (by repeat (first | exact Take.here _ | apply Take.next | apply Take.app)) ?_ | refine HSub.app (by repeat (first | with_reducible exact TakeS.here _ | apply TakeS.next | apply TakeS.app)) ?_ | exact HSub.nil _ | exact HSub.refl _ | refine HSub.drop ?_ | refine HSub.dropS ?_)) ?_
      have e : rdB V an nn = ([], 17) := if_pos (any_more (by omega) (by omega) c1)
      rw [e]
      exact ⟨_, [], rfl, .nil, rfl⟩
    · skip
      refine W_skip ?_
      refine W_sr ?_
      refine W_move rfl rfl ?_
      refine W_nil ?_
      refine W_block ?_
      refine W_loopC (X := (Nat × Value × Heap)) [(12, _), (24, _), (25, _), (26, _)] (fun (x : (Nat × Value × Heap)) => [(10, x.2.1), (32, .int .i64 (x.1 : Int))]) (fun _ => _) (fun (x : (Nat × Value × Heap)) => x.2.2 ++ ((b12, .cells 50 5 (vaC (V.getD (10 + an + i) zeroV))) :: (bf, .cells 130 90 (vaRow V)) :: H)) (fun (x : (Nat × Value × Heap)) => x.1 ≤ 8 ∧ OwnS 5 1 x.2.1 (i * 8 + x.1) (byV (wordsB ((V.drop (10 + an)).take (i))) ++ byV (lowL (V.getD (10 + an + i) zeroV).n x.1)) x.2.2) (fun (x : (Nat × Value × Heap)) => 8 - x.1) (0, xv, XB) ⟨Nat.zero_le _, by show OwnS 5 1 xv (i * 8 + 0) (byV (wordsB ((V.drop (10 + an)).take (i))) ++ []) XB; rw [List.append_nil]; exact hX⟩ (sub_cons rfl (sub_cons rfl (sub_cons rfl (sub_cons rfl (sub_nil _))))) (sub_cons rfl (sub_cons rfl (sub_nil _))) rfl (by repeat (first | with_reducible exact HSub.refl _ | refine HSub.cons (by repeat (first | exact Take.here _ | apply Take.next | apply Take.app)) ?_ | refine HSub.app (by repeat (first | with_reducible exact TakeS.here _ | apply TakeS.next | apply TakeS.app)) ?_ | exact HSub.nil _ | exact HSub.refl _ | refine HSub.drop ?_ | refine HSub.dropS ?_)) ?_
      rintro ⟨j, yv, YB⟩ ⟨hj, hY⟩
      dsimp only at hj hY ⊢
      simp only [List.cons_append, List.nil_append]
      refine W_sr ?_
      refine W_bin rfl rfl b_lss rfl ?_
      refine W_nil ?_
      refine W_seq ?_
      refine W_condPS (p := (j : Int) < 8) rfl (by simp) (fun c2 => ?_) (fun c2 => ?_)
      · skip
        refine W_skip ?_
        refine W_seq ?_
        refine W_block ?_
        refine W_sr ?_
        refine W_move rfl rfl ?_
        refine W_assign rfl rfl ?_
        refine W_nil ?_
        refine W_region ?_
        refine W_move rfl rfl ?_
        refine W_fieldAddr rfl fld50_3 (by decide) rfl ?_
        refine W_load rfl ty22 rfl (Cell.own (b := b12) (by repeat (first | exact List.mem_cons_self | apply List.mem_cons_of_mem | apply List.mem_append_right)) rfl) rfl ?_
        refine W_move rfl rfl ?_
        refine W_bin rfl rfl (b_mul (m := 8 * (j : Int)) (i64w (by omega))) rfl ?_
        refine W_bin rfl rfl (b_shr (m := (V.getD (10 + an + i) zeroV).n / 256 ^ j) (by omega) (shr_n (by omega))) rfl ?_
        refine W_conv rfl ty22 ty5 rfl rfl ?_
        rw [u8_wrap]
        refine W_buildSlice ty23 ty5 (.cons rfl rfl rfl rfl rfl .nil) rfl rfl rfl rfl rfl rfl rfl (fun b42 => ?_)
        refine W_append (news := byV [((V.getD (10 + an + i) zeroV).n / 256 ^ j) % 256]) (m := 1) (HB := YB) (H0 := (b12, .cells 50 5 (vaC (V.getD (10 + an + i) zeroV))) :: (bf, .cells 130 90 (vaRow V)) :: H) rfl rfl ty23 ty5 rfl (by decide) hY rfl (Holds.own List.mem_cons_self) rfl (by simp only [maxLen]; omega) (by omega) (by repeat (first | with_reducible exact HSub.refl _ | refine HSub.cons (by repeat (first | exact Take.here _ | apply Take.next | apply Take.app)) ?_ | refine HSub.app (by repeat (first | with_reducible exact TakeS.here _ | apply TakeS.next | apply TakeS.app)) ?_ | exact HSub.nil _ | exact HSub.refl _ | refine HSub.drop ?_ | refine HSub.dropS ?_)) rfl (fun v' HB' hO' => ?_)
        refine W_assign rfl rfl ?_
        refine W_nil ?_
        refine W_blk ?_
        refine W_region ?_
        refine W_bin rfl rfl (b_add (m := ((j + 1 : Nat) : Int)) ((i64w (by omega)).trans (by omega))) rfl ?_
        refine W_move rfl rfl ?_
        refine W_nil ?_
        refine W_again (j + 1, v', HB') ⟨by show j + 1 ≤ 8; omega, by show OwnS 5 1 v' (i * 8 + (j + 1)) _ HB'; rw [lowL_snoc, byV_append, ← List.append_assoc]; exact hO'⟩ (by show 8 - (j + 1) < 8 - j; omega) (sub_cons rfl (sub_cons rfl (sub_cons rfl (sub_cons rfl (sub_cons rfl (sub_cons rfl (sub_nil _))))))) rfl (by repeat (first | with_reducible exact HSub.refl _ | refine HSub.cons (by repeat (first | exact Take.here _ | apply Take.next | apply Take.app)) ?_ | refine HSub.app (by repeat (first | with_reducible exact TakeS.here _ | apply TakeS.next | apply TakeS.app)) ?_ | exact HSub.nil _ | exact HSub.refl _ | refine HSub.drop ?_ | refine HSub.dropS ?_))
      · skip
        refine W_exit rfl ?_
        refine W_blk ?_
        refine W_region ?_
        refine W_bin rfl rfl (b_add (m := ((i + 1 : Nat) : Int)) ((i64w (by omega)).trans (by omega))) rfl ?_
        refine W_move rfl rfl ?_
        refine W_nil ?_
        refine W_again (i + 1, yv, YB) ⟨by show i + 1 ≤ nn; omega, by show ((V.drop (10 + an)).take (i + 1)).any Va.ref = false; rw [any_snoc (by omega), hno]; simpa using c1, by obtain rfl : j = 8 := (by omega); show OwnS 5 1 yv ((i + 1) * 8) (byV (wordsB ((V.drop (10 + an)).take (i + 1)))) YB; rw [wordsB_snoc (by omega), byV_append, Nat.add_mul]; exact hY⟩ (by show nn - (i + 1) < nn - i; omega) (sub_cons rfl (sub_cons rfl (sub_cons rfl (sub_cons rfl (sub_nil _))))) rfl (by repeat (first | with_reducible exact HSub.refl _ | refine HSub.cons (by repeat (first | exact Take.here _ | apply Take.next | apply Take.app)) ?_ | refine HSub.app (by repeat (first | with_reducible exact TakeS.here _ | apply TakeS.next | apply TakeS.app)) ?_ | exact HSub.nil _ | exact HSub.refl _ | refine HSub.drop ?_ | refine HSub.dropS ?_))
  · skip
    refine W_exit rfl ?_
    refine W_sr ?_
    refine W_move rfl rfl ?_
    refine W_assign rfl rfl ?_
    refine W_assign rfl rfl ?_
    refine W_nil ?_
    refine W_ret2m (H2 := XB ++ ((bf, .cells 130 90 (vaRow V)) :: H)) Tryd.results34 rfl rfl (.nil _) (by repeat (first | with_reducible exact HSub.refl _ | refine HSub.cons (by repeat (first | exact Take.here _ | apply Take.next | apply Take.app)) ?_ | refine HSub.app (by repeat (first | with_reducible exact TakeS.here _ | apply TakeS.next | apply TakeS.app)) ?_ | exact HSub.nil _ | exact HSub.refl _ | refine HSub.drop ?_ | refine HSub.dropS ?_)) ?_
    obtain rfl : i = nn := by omega
    have e : rdB V an i = (wordsB ((V.drop (10 + an)).take (i)), 0) := if_neg (by rw [hno]; simp)
    rw [e]
    exact ⟨_, XB, rfl, by rw [wordsB_len, List.length_take, List.length_drop, hV]; rw [show min i (18 - (10 + an)) = i by omega]; exact hX, rfl⟩
set_option maxHeartbeats 1000000 in
theorem read_bad (bf : Nat) {a n : Int} (ha : I64 a) (hn : I64 n) (hb : badW a n) : Pure Tryd.prog (fun _ => True) 34 [.pointer (some ⟨bf, 0, none⟩), .int .i64 a, .int .i64 n] (.tuple #[.slice none 0 0, .int .i64 1]) := by
  intro w0 H hT
  refine L_enter Tryd.func34 rfl Tryd.ntmps34 rfl rfl ?_
  refine W_sr ?_
  refine W_assign rfl rfl ?_
  refine W_assign rfl rfl ?_
  refine W_nil ?_
  refine W_sr ?_
  refine W_move rfl rfl ?_
  refine W_move rfl rfl ?_
  refine W_move rfl rfl ?_
  refine W_callp (.cons rfl (.cons rfl (.cons rfl .nil))) Tryd.call73 rfl (T := fun _ => True) trivial (words_bad _ ha hn hb) ?_
  refine W_move rfl rfl ?_
  refine W_extract rfl rfl rfl ?_
  refine W_extract rfl rfl rfl ?_
  refine W_assign rfl rfl ?_
  refine W_assign rfl rfl ?_
  refine W_nil ?_
  refine W_seq ?_
  refine W_sr ?_
  refine W_move rfl rfl ?_
  refine W_bin rfl rfl b_neq rfl ?_
  refine W_nil ?_
  refine W_condT rfl rfl ?_
  refine W_sr ?_
  refine W_move rfl rfl ?_
  refine W_assign rfl rfl ?_
  refine W_assign rfl rfl ?_
  refine W_nil ?_
  refine W_ret2m (H2 := H) Tryd.results34 rfl rfl (.nil _) (by repeat (first | with_reducible exact HSub.refl _ | refine HSub.cons (by repeat (first | exact Take.here _ | apply Take.next | apply Take.app)) ?_ | refine HSub.app (by repeat (first | with_reducible exact TakeS.here _ | apply TakeS.next | apply TakeS.app)) ?_ | exact HSub.nil _ | exact HSub.refl _ | refine HSub.drop ?_ | refine HSub.dropS ?_)) ?_
  exact ⟨rfl, rfl⟩
set_option maxHeartbeats 1000000 in
theorem rread_L {w0 : World} {H : Heap} {V : List Va} {an nn : Nat} (hV : V.length = 18) (hw : ∀ v ∈ V, Wd v.n) (hb : an + nn ≤ 8)  : LCalls Tryd.prog w0 33 #[.agg (vaRow V).toArray, .int .i64 (an : Int), .int .i64 (nn : Int)] (H) (fun v H' => ∃ sv HB, v = .tuple #[sv, .int .i64 (rdB V an nn).2] ∧ OwnS 5 1 sv (rdB V an nn).1.length (byV (rdB V an nn).1) HB ∧ H' = HB ++ H) := by
  refine L_enter (l := [.agg (vaRow V).toArray, .int .i64 (an : Int), .int .i64 (nn : Int)]) Tryd.func33 rfl Tryd.ntmps33 rfl rfl ?_
  refine W_sr ?_
  refine W_box rfl rfl rfl (fun b3 => ?_)
  show W _ _ _ _ _ _ _ _ ((b3, .cells 60 (vaRow V).length (vaRow V)) :: H)
  rw [show (vaRow V).length = 90 by rw [vaRow_len, hV]]
  refine W_assign rfl rfl ?_
  refine W_assign rfl rfl ?_
  refine W_nil ?_
  refine W_seq ?_
  refine W_sr ?_
  refine W_move rfl rfl ?_
  refine W_bin rfl rfl b_lss rfl ?_
  refine W_move rfl rfl ?_
  apply W_or
  iterate 4 exact rfl
  case h1 =>
    intro hg2
    refine W_gyes rfl rfl ?_
    refine W_move rfl rfl ?_
    refine W_gyes rfl rfl ?_
    refine W_bin rfl rfl b_lss rfl ?_
    exact W_met rfl (by repeat (first | exact .refl | refine .cons rfl ?_))
  refine W_move rfl rfl ?_
  apply W_or
  iterate 4 exact rfl
  case h1 =>
    intro hg6
    refine W_gyes rfl rfl ?_
    refine W_move rfl rfl ?_
    refine W_gyes rfl rfl ?_
    refine W_bin rfl rfl b_gtr rfl ?_
    exact W_met rfl (by repeat (first | exact .refl | refine .cons rfl ?_))
  refine W_move rfl rfl ?_
  apply W_or
  iterate 4 exact rfl
  case h1 =>
    intro hg10
    refine W_gyes rfl rfl ?_
    refine W_move rfl rfl ?_
    refine W_gyes rfl rfl ?_
    refine W_move rfl rfl ?_
    refine W_gyes rfl rfl ?_
    refine W_bin rfl rfl (b_sub (m := 8 - (an : Int)) (i64w (by omega))) rfl ?_
    refine W_gyes rfl rfl ?_
    refine W_bin rfl rfl b_gtr rfl ?_
    exact W_met rfl (by repeat (first | exact .refl | refine .cons rfl ?_))
  refine W_nil ?_
  refine W_condF rfl (by simp; omega) ?_
  refine W_skip ?_
  refine W_sr ?_
  refine W_assign rfl rfl ?_
  refine W_nil ?_
  refine W_seq ?_
  refine W_sr ?_
  refine W_move rfl rfl ?_
  refine W_assign rfl rfl ?_
  refine W_nil ?_
  refine W_block ?_
  refine W_loopC (X := (Nat × Value × Heap)) [(1, _), (2, _), (3, _)] (fun (x : (Nat × Value × Heap)) => [(8, x.2.1), (9, .int .i64 ((an + x.1 : Nat) : Int))]) (fun _ => _) (fun (x : (Nat × Value × Heap)) => x.2.2 ++ ((b3, .cells 60 90 (vaRow V)) :: H)) (fun (x : (Nat × Value × Heap)) => x.1 ≤ nn ∧ ((V.drop (10 + an)).take (x.1)).any Va.ref = false ∧ OwnS 5 1 x.2.1 (x.1 * 8) (byV (wordsB ((V.drop (10 + an)).take (x.1)))) x.2.2) (fun (x : (Nat × Value × Heap)) => nn - x.1) (0, .slice none 0 0, []) ⟨Nat.zero_le _, by rw [List.take_zero]; rfl, by rw [List.take_zero, Nat.zero_mul]; exact .nil⟩ (sub_cons rfl (sub_cons rfl (sub_cons rfl (sub_nil _)))) (sub_cons rfl (sub_cons rfl (sub_nil _))) rfl (HSub.refl _) ?_
  rintro ⟨i, xv, XB⟩ ⟨hi, hno, hX⟩
  dsimp only at hi hno hX ⊢
  simp only [List.cons_append, List.nil_append]
  refine W_seq ?_
  refine W_sr ?_
  refine W_move rfl rfl ?_
  refine W_move rfl rfl ?_
  refine W_move rfl rfl ?_
  refine W_bin rfl rfl (b_add (m := ((an + nn : Nat) : Int)) ((i64w (by omega)).trans (by omega))) rfl ?_
  refine W_bin rfl rfl b_lss rfl ?_
  refine W_nil ?_
  refine W_condPS (p := i < nn) rfl (by simp) (fun c0 => ?_) (fun c0 => ?_)
  · skip
    refine W_skip ?_
    refine W_seq ?_
    refine W_block ?_
    refine W_sr ?_
    refine W_move rfl rfl ?_
    refine W_bin rfl rfl (b_add (m := ((10 + an + i : Nat) : Int)) ((i64w (by omega)).trans (by omega))) rfl ?_
    refine W_fieldAddr rfl fld60_0 (by decide) rfl ?_
    refine W_indexAddrA (j := (10 + an + i)) rfl rfl ty58 ty55 (by first | rfl | omega) (by first | decide | omega | simp) rfl rfl ?_
    refine W_loadB (vs := vaC (V.getD (10 + an + i) zeroV)) rfl ty55 rfl (b := b3) (by repeat (first | exact List.mem_cons_self | apply List.mem_cons_of_mem | apply List.mem_append_right)) (by show Nat.ble _ (vaRow V).length = true; rw [vaRow_len, Nat.ble_eq]; omega) (by rw [Nat.zero_add]; exact va_at (getV hV (i := 10 + an + i) (by omega))) rfl ?_
    refine W_alloc ty55 rfl rfl (fun b10 => ?_)
    refine W_storeA (l' := vaC (V.getD (10 + an + i) zeroV)) rfl rfl ty55 rfl rfl (b := b10) (by repeat (first | exact List.mem_cons_self | apply List.mem_cons_of_mem | apply List.mem_append_right)) (by exact Nat.le_refl 5) rfl (by repeat (first | exact Upd.head _ | apply Upd.tail | apply Upd.app)) ?_
    refine W_nil ?_
    refine W_seq ?_
    refine W_sr ?_
    refine W_fieldAddr rfl fld55_0 (by decide) rfl ?_
    refine W_load rfl ty4 rfl (Cell.own (b := b10) (by repeat (first | exact List.mem_cons_self | apply List.mem_cons_of_mem | apply List.mem_append_right)) rfl) rfl ?_
    refine W_nil ?_
    refine W_condS rfl (fun c1 => ?_) (fun c1 => ?_)
    · skip
      refine W_sr ?_
      refine W_assign rfl rfl ?_
      refine W_assign rfl rfl ?_
      refine W_nil ?_
      refine W_ret2m (H2 := H) Tryd.results33 rfl rfl (.nil _) (by repeat (first | with_reducible exact HSub.refl _ | refine HSub.cons (by repeat (first | exact Take.here _ | apply Take.next | apply Take.app)) ?_ | refine HSub.app (by repeat (first | with_reducible exact TakeS.here _ | apply TakeS.next | apply TakeS.app)) ?_ | exact HSub.nil _ | exact HSub.refl _ | refine HSub.drop ?_ | refine HSub.dropS ?_)) ?_
      have e : rdB V an nn = ([], 17) := if_pos (any_more (by omega) (by omega) c1)
      rw [e]
      exact ⟨_, [], rfl, .nil, rfl⟩
    · skip
      refine W_skip ?_
      refine W_sr ?_
      refine W_assign rfl rfl ?_
      refine W_nil ?_
      refine W_block ?_
      refine W_loopC (X := (Nat × Value × Heap)) [(1, _), (2, _), (3, _), (9, _), (10, _)] (fun (x : (Nat × Value × Heap)) => [(8, x.2.1), (11, .int .i64 (x.1 : Int))]) (fun _ => _) (fun (x : (Nat × Value × Heap)) => x.2.2 ++ ((b10, .cells 55 5 (vaC { (V.getD (10 + an + i) zeroV) with n := (V.getD (10 + an + i) zeroV).n / 256 ^ x.1 })) :: (b3, .cells 60 90 (vaRow V)) :: H)) (fun (x : (Nat × Value × Heap)) => x.1 ≤ 8 ∧ OwnS 5 1 x.2.1 (i * 8 + x.1) (byV (wordsB ((V.drop (10 + an)).take (i))) ++ byV (lowL (V.getD (10 + an + i) zeroV).n x.1)) x.2.2) (fun (x : (Nat × Value × Heap)) => 8 - x.1) (0, xv, XB) ⟨Nat.zero_le _, by show OwnS 5 1 xv (i * 8 + 0) (byV (wordsB ((V.drop (10 + an)).take (i))) ++ []) XB; rw [List.append_nil]; exact hX⟩ (sub_cons rfl (sub_cons rfl (sub_cons rfl (sub_cons rfl (sub_cons rfl (sub_nil _)))))) (sub_cons rfl (sub_cons rfl (sub_nil _))) rfl (by show HSub _ (XB ++ ((b10, .cells 55 5 (vaC { (V.getD (10 + an + i) zeroV) with n := (V.getD (10 + an + i) zeroV).n / 256 ^ 0 })) :: (b3, .cells 60 90 (vaRow V)) :: H)); rw [Int.pow_zero, Int.ediv_one]; repeat (first | with_reducible exact HSub.refl _ | refine HSub.cons (by repeat (first | exact Take.here _ | apply Take.next | apply Take.app)) ?_ | refine HSub.app (by repeat (first | with_reducible exact TakeS.here _ | apply TakeS.next | apply TakeS.app)) ?_ | exact HSub.nil _ | exact HSub.refl _ | refine HSub.drop ?_ | refine HSub.dropS ?_)) ?_
      rintro ⟨j, yv, YB⟩ ⟨hj, hY⟩
      dsimp only at hj hY ⊢
      simp only [List.cons_append, List.nil_append]
      refine W_seq ?_
      refine W_sr ?_
      refine W_move rfl rfl ?_
      refine W_bin rfl rfl b_lss rfl ?_
      refine W_nil ?_
      refine W_condPS (p := (j : Int) < 8) rfl (by simp) (fun c2 => ?_) (fun c2 => ?_)
      · skip
        refine W_skip ?_
        refine W_seq ?_
        refine W_block ?_
        refine W_sr ?_
        refine W_move rfl rfl ?_
        refine W_fieldAddr rfl fld55_4 (by decide) rfl ?_
        refine W_load (v := .int .u64 ((V.getD (10 + an + i) zeroV).n / 256 ^ j)) rfl ty22 rfl (Cell.own (b := b10) (by repeat (first | exact List.mem_cons_self | apply List.mem_cons_of_mem | apply List.mem_append_right)) rfl) rfl ?_
        have hp := pow_bound (hw _ (List.mem_of_getElem? (getV hV (i := 10 + an + i) (by omega)))) j
        refine W_bin rfl rfl (b_rem (by decide) (Int.tmod_eq_emod_of_nonneg hp.1)) rfl ?_
        refine W_conv rfl ty22 ty5 rfl rfl ?_
        rw [u8_wrap, Int.emod_emod_of_dvd _ (Int.dvd_refl _)]
        refine W_buildSlice ty23 ty5 (.cons rfl rfl rfl rfl rfl .nil) rfl rfl rfl rfl rfl rfl rfl (fun b52 => ?_)
        refine W_append (news := byV [((V.getD (10 + an + i) zeroV).n / 256 ^ j) % 256]) (m := 1) (HB := YB) (H0 := (b10, .cells 55 5 (vaC { (V.getD (10 + an + i) zeroV) with n := (V.getD (10 + an + i) zeroV).n / 256 ^ j })) :: (b3, .cells 60 90 (vaRow V)) :: H) rfl rfl ty23 ty5 rfl (by decide) hY rfl (Holds.own List.mem_cons_self) rfl (by simp only [maxLen]; omega) (by omega) (by repeat (first | with_reducible exact HSub.refl _ | refine HSub.cons (by repeat (first | exact Take.here _ | apply Take.next | apply Take.app)) ?_ | refine HSub.app (by repeat (first | with_reducible exact TakeS.here _ | apply TakeS.next | apply TakeS.app)) ?_ | exact HSub.nil _ | exact HSub.refl _ | refine HSub.drop ?_ | refine HSub.dropS ?_)) rfl (fun v' HB' hO' => ?_)
        refine W_assign rfl rfl ?_
        refine W_nil ?_
        refine W_region ?_
        refine W_fieldAddr rfl fld55_4 (by decide) rfl ?_
        refine W_load (v := .int .u64 ((V.getD (10 + an + i) zeroV).n / 256 ^ j)) rfl ty22 rfl (Cell.own (b := b10) (by repeat (first | exact List.mem_cons_self | apply List.mem_cons_of_mem | apply List.mem_append_right)) rfl) rfl ?_
        refine W_bin rfl rfl (b_quo (m := (V.getD (10 + an + i) zeroV).n / 256 ^ (j + 1)) (by decide) (by rw [Int.tdiv_eq_ediv_of_nonneg hp.1, div_pow]; exact u64_id (pow_bound (hw _ (List.mem_of_getElem? (getV hV (i := 10 + an + i) (by omega)))) _))) rfl ?_
        refine W_fieldAddr rfl fld55_4 (by decide) rfl ?_
        refine W_store (l' := vaC { (V.getD (10 + an + i) zeroV) with n := (V.getD (10 + an + i) zeroV).n / 256 ^ (j + 1) }) rfl rfl ty22 rfl rfl (b := b10) (by repeat (first | exact List.mem_cons_self | apply List.mem_cons_of_mem | apply List.mem_append_right)) rfl rfl (by repeat (first | exact Upd.head _ | apply Upd.tail | apply Upd.app)) ?_
        refine W_nil ?_
        refine W_blk ?_
        refine W_region ?_
        refine W_move rfl rfl ?_
        refine W_bin rfl rfl (b_add (m := ((j + 1 : Nat) : Int)) ((i64w (by omega)).trans (by omega))) rfl ?_
        refine W_assign rfl rfl ?_
        refine W_nil ?_
        refine W_again (j + 1, v', HB') ⟨by show j + 1 ≤ 8; omega, by show OwnS 5 1 v' (i * 8 + (j + 1)) _ HB'; rw [lowL_snoc, byV_append, ← List.append_assoc]; exact hO'⟩ (by show 8 - (j + 1) < 8 - j; omega) (sub_cons rfl (sub_cons rfl (sub_cons rfl (sub_cons rfl (sub_cons rfl (sub_cons rfl (sub_cons rfl (sub_nil _)))))))) rfl (by repeat (first | with_reducible exact HSub.refl _ | refine HSub.cons (by repeat (first | exact Take.here _ | apply Take.next | apply Take.app)) ?_ | refine HSub.app (by repeat (first | with_reducible exact TakeS.here _ | apply TakeS.next | apply TakeS.app)) ?_ | exact HSub.nil _ | exact HSub.refl _ | refine HSub.drop ?_ | refine HSub.dropS ?_))
      · skip
        refine W_exit rfl ?_
        refine W_blk ?_
        refine W_region ?_
        refine W_move rfl rfl ?_
        refine W_bin rfl rfl (b_add (m := ((an + (i + 1) : Nat) : Int)) ((i64w (by omega)).trans (by omega))) rfl ?_
        refine W_assign rfl rfl ?_
        refine W_nil ?_
        refine W_again (i + 1, yv, YB) ⟨by show i + 1 ≤ nn; omega, by show ((V.drop (10 + an)).take (i + 1)).any Va.ref = false; rw [any_snoc (by omega), hno]; simpa using c1, by obtain rfl : j = 8 := (by omega); show OwnS 5 1 yv ((i + 1) * 8) (byV (wordsB ((V.drop (10 + an)).take (i + 1)))) YB; rw [wordsB_snoc (by omega), byV_append, Nat.add_mul]; exact hY⟩ (by show nn - (i + 1) < nn - i; omega) (sub_cons rfl (sub_cons rfl (sub_cons rfl (sub_cons rfl (sub_cons rfl (sub_nil _)))))) rfl (by repeat (first | with_reducible exact HSub.refl _ | refine HSub.cons (by repeat (first | exact Take.here _ | apply Take.next | apply Take.app)) ?_ | refine HSub.app (by repeat (first | with_reducible exact TakeS.here _ | apply TakeS.next | apply TakeS.app)) ?_ | exact HSub.nil _ | exact HSub.refl _ | refine HSub.drop ?_ | refine HSub.dropS ?_))
  · skip
    refine W_exit rfl ?_
    refine W_sr ?_
    refine W_move rfl rfl ?_
    refine W_assign rfl rfl ?_
    refine W_assign rfl rfl ?_
    refine W_nil ?_
    refine W_ret2m (H2 := XB ++ H) Tryd.results33 rfl rfl (.nil _) (by repeat (first | with_reducible exact HSub.refl _ | refine HSub.cons (by repeat (first | exact Take.here _ | apply Take.next | apply Take.app)) ?_ | refine HSub.app (by repeat (first | with_reducible exact TakeS.here _ | apply TakeS.next | apply TakeS.app)) ?_ | exact HSub.nil _ | exact HSub.refl _ | refine HSub.drop ?_ | refine HSub.dropS ?_)) ?_
    obtain rfl : i = nn := by omega
    have e : rdB V an i = (wordsB ((V.drop (10 + an)).take (i)), 0) := if_neg (by rw [hno]; simp)
    rw [e]
    exact ⟨_, XB, rfl, by rw [wordsB_len, List.length_take, List.length_drop, hV]; rw [show min i (18 - (10 + an)) = i by omega]; exact hX, rfl⟩
set_option maxHeartbeats 1000000 in
theorem rread_bad (V : List Va) {a n : Int} (ha : I64 a) (hn : I64 n) (hb : badW a n) : Pure Tryd.prog (fun _ => True) 33 [.agg (vaRow V).toArray, .int .i64 a, .int .i64 n] (.tuple #[.slice none 0 0, .int .i64 1]) := by
  intro w0 H hT
  unfold badW at hb
  refine L_enter Tryd.func33 rfl Tryd.ntmps33 rfl rfl ?_
  refine W_sr ?_
  refine W_box rfl rfl rfl (fun b3 => ?_)
  refine W_assign rfl rfl ?_
  refine W_assign rfl rfl ?_
  refine W_nil ?_
  refine W_seq ?_
  refine W_sr ?_
  refine W_move rfl rfl ?_
  refine W_bin rfl rfl b_lss rfl ?_
  refine W_move rfl rfl ?_
  apply W_or
  iterate 4 exact rfl
  case h1 =>
    intro hg2
    refine W_gyes rfl rfl ?_
    refine W_move rfl rfl ?_
    refine W_gyes rfl rfl ?_
    refine W_bin rfl rfl b_lss rfl ?_
    exact W_met rfl (by repeat (first | exact .refl | refine .cons rfl ?_))
  refine W_move rfl rfl ?_
  apply W_or
  iterate 4 exact rfl
  case h1 =>
    intro hg6
    refine W_gyes rfl rfl ?_
    refine W_move rfl rfl ?_
    refine W_gyes rfl rfl ?_
    refine W_bin rfl rfl b_gtr rfl ?_
    exact W_met rfl (by repeat (first | exact .refl | refine .cons rfl ?_))
  refine W_move rfl rfl ?_
  apply W_or
  iterate 4 exact rfl
  case h1 =>
    intro hg10
    have hg := hg10
    simp only [Bool.or_eq_false_iff, decide_eq_false_iff_not] at hg
    refine W_gyes rfl rfl ?_
    refine W_move rfl rfl ?_
    refine W_gyes rfl rfl ?_
    refine W_move rfl rfl ?_
    refine W_gyes rfl rfl ?_
    refine W_bin rfl rfl (b_sub (m := 8 - a) (i64w (by omega))) rfl ?_
    refine W_gyes rfl rfl ?_
    refine W_bin rfl rfl b_gtr rfl ?_
    exact W_met rfl (by repeat (first | exact .refl | refine .cons rfl ?_))
  refine W_nil ?_
  refine W_condT rfl (by simp; omega) ?_
  refine W_sr ?_
  refine W_assign rfl rfl ?_
  refine W_assign rfl rfl ?_
  refine W_nil ?_
  refine W_ret2m (H2 := H) Tryd.results33 rfl rfl (.nil _) (by repeat (first | with_reducible exact HSub.refl _ | refine HSub.cons (by repeat (first | exact Take.here _ | apply Take.next | apply Take.app)) ?_ | refine HSub.app (by repeat (first | with_reducible exact TakeS.here _ | apply TakeS.next | apply TakeS.app)) ?_ | exact HSub.nil _ | exact HSub.refl _ | refine HSub.drop ?_ | refine HSub.dropS ?_)) ?_
  exact ⟨rfl, rfl⟩
end Go.Proofs.YtkhkagjbeilbgaaDoor
