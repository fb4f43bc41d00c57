/-
  Own work: contracts of functions that the statement reaches, and plain facts on what they compute; each theorem says its conditions.
-/
import Derived.Test.YtkhkagjbeilbgaaDoorF18
set_option linter.all false
set_option linter.unusedSimpArgs false
set_option linter.unusedVariables false
namespace Go.Proofs.YtkhkagjbeilbgaaDoor
open Go Go.Sl
attribute [local irreducible] W
open Go.Script (lowL numL Bytes lowL_len lowL_bytes numL_nonneg numL_lt low_num)

/-- eight bytes of some -/
def chunk (b : List Int) (k : Nat) : List Int := (b.drop (8 * k)).take 8
theorem drop_get (b : List Int) (o j : Nat) : (b.drop o).getD j 0 = b.getD (o + j) 0 := by simp [List.getD, List.getElem?_drop]
theorem chunk_get (b : List Int) (k : Nat) {j : Nat} (hj : j < 8) : (chunk b k).getD j 0 = b.getD (8 * k + j) 0 := by
  unfold chunk
  rw [← drop_get]
  simp [List.getD, List.getElem?_take_of_lt hj]
theorem chunk_len {b : List Int} {k n : Nat} (hb : b.length = 8 * n) (hk : k < n) : (chunk b k).length = 8 := by
  unfold chunk; rw [List.length_take, List.length_drop]; omega
/-- words of bytes -/
def wrN (V : List Va) (an : Nat) (b : List Int) : Nat → List Va
  | 0 => V
  | k + 1 => (wrN V an b k).set (10 + an + k) ⟨false, 0, 0, 0, numL (chunk b k)⟩
theorem wrN_len (V : List Va) (an : Nat) (b : List Int) : ∀ k, (wrN V an b k).length = V.length
  | 0 => rfl
  | k + 1 => by show (List.set _ _ _).length = _; rw [List.length_set, wrN_len V an b k]
theorem take_chunk {b : List Int} {k i : Nat} (h : 8 * k + i < b.length) : (b.drop (8 * k)).take (i + 1) = (b.drop (8 * k)).take i ++ [b.getD (8 * k + i) 0] := by
  rw [take_at (by rw [List.length_drop]; omega), drop_get]
theorem _root_.Go.Script.Bytes.chunk {b : List Int} (h : Bytes b) (k : Nat) : Bytes (chunk b k) := (h.drop _).take _
theorem quo8 {n : Nat} {q : Nat} (h : n / 8 = q) (hn : n ≤ 4611686018427387904) : IntKind.i64.wrap ((n : Int).tdiv 8) = (q : Int) := by
  rw [Int.tdiv_eq_ediv_of_nonneg (by omega)]; exact (i64w (by omega)).trans (by omega)
theorem rem8 {n : Nat} : (n : Int).tmod 8 = ((n % 8 : Nat) : Int) := by
  rw [Int.tmod_eq_emod_of_nonneg (by omega)]; omega
set_option maxHeartbeats 1000000 in
theorem write_L {w0 : World} {H : Heap} {bf : Nat} {V : List Va} {b : List Int} {ad : Option Addr} {cap an nn : Nat} (hV : V.length = 18) (hb : an + nn ≤ 8) (hbl : b.length = 8 * nn) (hB : Bytes b) (hrow : Holds w0 H ad (byV b))  : LCalls Tryd.prog w0 32 #[.pointer (some ⟨bf, 0, none⟩), .int .i64 (an : Int), .slice ad b.length cap] ((bf, .cells 130 90 (vaRow V)) :: H) (fun v H' => v = .int .i64 0 ∧ H' = (bf, .cells 130 90 (vaRow (wrN V an b nn))) :: H) := by
  have hbl' : b.length / 8 = nn := by omega
  refine L_enter (l := [.pointer (some ⟨bf, 0, none⟩), .int .i64 (an : Int), .slice ad b.length cap]) Tryd.func32 rfl Tryd.ntmps32 rfl rfl ?_
  refine W_sr ?_
  refine W_assign rfl rfl ?_
  refine W_nil ?_
  refine W_sr ?_
  refine W_move rfl rfl ?_
  refine W_move rfl rfl ?_
  refine W_move rfl rfl ?_
  refine W_len rfl ty23 rfl rfl ?_
  refine W_bin rfl rfl (b_quo (m := (nn : Int)) (by decide) (quo8 (by omega) (by omega))) rfl ?_
  refine W_callp (.cons rfl (.cons rfl (.cons rfl .nil))) Tryd.call73 rfl (T := fun _ => True) trivial (words_ok _ hb) ?_
  refine W_move rfl rfl ?_
  refine W_extract rfl rfl rfl ?_
  refine W_extract rfl rfl rfl ?_
  refine W_assign rfl rfl ?_
  refine W_assign rfl rfl ?_
  refine W_nil ?_
  refine W_seq ?_
  refine W_block ?_
  refine W_sr ?_
  refine W_move rfl rfl ?_
  refine W_bin rfl rfl b_neq rfl ?_
  refine W_assign rfl rfl ?_
  refine W_nil ?_
  refine W_condF rfl rfl ?_
  refine W_sr ?_
  refine W_move rfl rfl ?_
  refine W_len rfl ty23 rfl rfl ?_
  refine W_bin rfl rfl (b_rem (by decide) rem8) rfl ?_
  refine W_bin rfl rfl b_neq rfl ?_
  refine W_assign rfl rfl ?_
  refine W_nil ?_
  refine W_condF rfl (by rw [hbl]; simp) ?_
  refine W_skip ?_
  refine W_blk ?_
  refine W_seq ?_
  refine W_sr ?_
  refine W_move rfl rfl ?_
  refine W_len rfl ty40 rfl rfl ?_
  refine W_move rfl rfl ?_
  refine W_nil ?_
  refine W_block ?_
  refine W_loopC (X := Nat) [(2, _), (7, _), (31, _)] (fun (k : Nat) => [(32, .int .i64 (k : Int))]) (fun _ => _) (fun (k : Nat) => (bf, .cells 130 90 (vaRow (wrN V an b k))) :: H) (fun (k : Nat) => k ≤ nn) (fun (k : Nat) => nn - k) 0 (Nat.zero_le _) (sub_cons rfl (sub_cons rfl (sub_cons rfl (sub_nil _)))) (sub_cons rfl (sub_nil _)) rfl (by repeat (first | with_reducible exact HSub.refl _ | refine HSub.cons (by repeat (first | exact Take.here _ | apply Take.next | apply Take.app)) ?_ | refine HSub.app (by repeat (first | with_reducible exact TakeS.here _ | apply TakeS.next | apply TakeS.app)) ?_ | exact HSub.nil _ | exact HSub.refl _ | refine HSub.drop ?_ | refine HSub.dropS ?_)) ?_
  intro k hk
  have hwl := (wrN_len V an b k).trans hV
  simp only [List.cons_append, List.nil_append]
  refine W_sr ?_
  refine W_bin rfl rfl b_lss rfl ?_
  refine W_nil ?_
  refine W_seq ?_
  refine W_condPS (p := (k : Int) < (nn : Int)) rfl (by simp) (fun c0 => ?_) (fun c0 => ?_)
  · skip
    refine W_skip ?_
    refine W_seq ?_
    refine W_block ?_
    refine W_sr ?_
    refine W_move rfl rfl ?_
    refine W_assign rfl rfl ?_
    refine W_nil ?_
    refine W_sr ?_
    refine W_assign rfl rfl ?_
    refine W_nil ?_
    refine W_seq ?_
    refine W_sr ?_
    refine W_move rfl rfl ?_
    refine W_nil ?_
    refine W_block ?_
    refine W_loopC (X := Nat) [(2, _), (7, _), (9, _), (31, _), (32, _)] (fun (i : Nat) => [(35, .int .i64 (i : Int)), (10, .int .u64 (numL ((b.drop (8 * k)).take i)))]) (fun _ => _) (fun _ => _) (fun (i : Nat) => i ≤ 8) (fun (i : Nat) => 8 - i) 0 (by decide) (sub_cons rfl (sub_cons rfl (sub_cons rfl (sub_cons rfl (sub_cons rfl (sub_nil _)))))) (sub_cons rfl (sub_cons rfl (sub_nil _))) rfl (by repeat (first | with_reducible exact HSub.refl _ | refine HSub.cons (by repeat (first | exact Take.here _ | apply Take.next | apply Take.app)) ?_ | refine HSub.app (by repeat (first | with_reducible exact TakeS.here _ | apply TakeS.next | apply TakeS.app)) ?_ | exact HSub.nil _ | exact HSub.refl _ | refine HSub.drop ?_ | refine HSub.dropS ?_)) ?_
    intro i hi
    simp only [List.cons_append, List.nil_append]
    refine W_sr ?_
    refine W_bin rfl rfl b_lss rfl ?_
    refine W_nil ?_
    refine W_seq ?_
    refine W_condPS (p := (i : Int) < 8) rfl (by simp) (fun c1 => ?_) (fun c1 => ?_)
    · skip
      refine W_skip ?_
      refine W_seq ?_
      refine W_block ?_
      refine W_sr ?_
      refine W_move rfl rfl ?_
      refine W_assign rfl rfl ?_
      refine W_nil ?_
      refine W_region ?_
      obtain ⟨b0, o0, rfl, hcb⟩ := hrow.at (i := 8 * k + i) (v := .int .u8 (b.getD (8 * k + i) 0)) (byV_get (by omega))
      have hbb := hB.getD (8 * k + i)
      refine W_move rfl rfl ?_
      refine W_move rfl rfl ?_
      refine W_move rfl rfl ?_
      refine W_bin rfl rfl (b_mul (m := 8 * (k : Int)) (i64w (by omega))) rfl ?_
      refine W_move rfl rfl ?_
      refine W_bin rfl rfl (b_add (m := ((8 * k + i : Nat) : Int)) ((i64w (by omega)).trans (by omega))) rfl ?_
      refine W_indexAddr (j := (8 * k + i)) rfl rfl ty23 ty5 (by first | rfl | omega) (by first | decide | omega | simp) rfl rfl ?_
      refine W_load rfl ty5 rfl (v := .int .u8 (b.getD (8 * k + i) 0)) (by rw [Nat.mul_one]; exact hcb.up (by repeat (first | with_reducible exact HSub.refl _ | refine HSub.cons (by repeat (first | exact Take.here _ | apply Take.next | apply Take.app)) ?_ | refine HSub.app (by repeat (first | with_reducible exact TakeS.here _ | apply TakeS.next | apply TakeS.app)) ?_ | exact HSub.nil _ | exact HSub.refl _ | refine HSub.drop ?_ | refine HSub.dropS ?_))) rfl ?_
      refine W_conv (m := b.getD (8 * k + i) 0) rfl ty5 ty22 (u64_id (by omega)) rfl ?_
      refine W_move rfl rfl ?_
      refine W_bin rfl rfl (b_mul (m := 8 * (i : Int)) (i64w (by omega))) rfl ?_
      refine W_bin rfl rfl (b_shl (m := 256 ^ i * b.getD (8 * k + i) 0) (by omega) (shl_n (by omega) hbb)) rfl ?_
      refine W_bin rfl rfl (b_or (m := (numL ((b.drop (8 * k)).take (i + 1)))) (by rw [take_chunk (by omega), numL_snoc, show ((b.drop (8 * k)).take i).length = i by rw [List.length_take, List.length_drop]; omega]; exact or_high (by omega) (numL_le ((hB.drop _).take _) (by rw [List.length_take]; omega)) hbb)) rfl ?_
      refine W_assign rfl rfl ?_
      refine W_nil ?_
      refine W_blk ?_
      refine W_region ?_
      refine W_bin rfl rfl (b_add (m := ((i + 1 : Nat) : Int)) ((i64w (by omega)).trans (by omega))) rfl ?_
      refine W_move rfl rfl ?_
      refine W_nil ?_
      refine W_again (i + 1) (by omega) (by omega) (sub_cons rfl (sub_cons rfl (sub_cons rfl (sub_cons rfl (sub_cons rfl (sub_cons rfl (sub_cons rfl (sub_nil _)))))))) rfl (by repeat (first | with_reducible exact HSub.refl _ | refine HSub.cons (by repeat (first | exact Take.here _ | apply Take.next | apply Take.app)) ?_ | refine HSub.app (by repeat (first | with_reducible exact TakeS.here _ | apply TakeS.next | apply TakeS.app)) ?_ | exact HSub.nil _ | exact HSub.refl _ | refine HSub.drop ?_ | refine HSub.dropS ?_))
    · skip
      refine W_exit rfl ?_
      refine W_region ?_
      obtain rfl : i = 8 := by omega
      refine W_move rfl rfl ?_
      refine W_move rfl rfl ?_
      refine W_move rfl rfl ?_
      refine W_callp (.cons rfl .nil) Tryd.call27 rfl (T := fun _ => True) trivial (Num_pure _) ?_
      refine W_indexAddr (j := k) rfl rfl ty40 ty50 (by first | rfl | omega) (by first | decide | omega | simp) rfl rfl ?_
      refine W_storeA rfl rfl ty50 rfl rfl (b := bf) (by repeat (first | exact List.mem_cons_self | apply List.mem_cons_of_mem | apply List.mem_append_right)) (by rw [vaRow_len, wOff_at hb (by omega), hwl]; show (10 + an + k) * 5 + 5 ≤ 90; omega) ((congrArg (fun z => spliceL (vaRow (wrN V an b k)) z (vaC ⟨false, 0, 0, 0, numL (chunk b k)⟩)) (wOff_at hb (by omega))).trans (va_set ⟨false, 0, 0, 0, numL (chunk b k)⟩ (by omega))) (by repeat (first | exact Upd.head _ | apply Upd.tail | apply Upd.app)) ?_
      refine W_nil ?_
      refine W_blk ?_
      refine W_region ?_
      refine W_bin rfl rfl (b_add (m := ((k + 1 : Nat) : Int)) ((i64w (by omega)).trans (by omega))) rfl ?_
      refine W_move rfl rfl ?_
      refine W_nil ?_
      refine W_again (k + 1) (by omega) (by omega) (sub_cons rfl (sub_cons rfl (sub_cons rfl (sub_cons rfl (sub_nil _))))) rfl (by repeat (first | with_reducible exact HSub.refl _ | refine HSub.cons (by repeat (first | exact Take.here _ | apply Take.next | apply Take.app)) ?_ | refine HSub.app (by repeat (first | with_reducible exact TakeS.here _ | apply TakeS.next | apply TakeS.app)) ?_ | exact HSub.nil _ | exact HSub.refl _ | refine HSub.drop ?_ | refine HSub.dropS ?_))
  · skip
    refine W_exit rfl ?_
    refine W_sr ?_
    obtain rfl : k = nn := by omega
    refine W_assign rfl rfl ?_
    refine W_nil ?_
    refine W_ret1m (H2 := (bf, .cells 130 90 (vaRow (wrN V an b k))) :: H) Tryd.results32 rfl (.nil _) (by repeat (first | with_reducible exact HSub.refl _ | refine HSub.cons (by repeat (first | exact Take.here _ | apply Take.next | apply Take.app)) ?_ | refine HSub.app (by repeat (first | with_reducible exact TakeS.here _ | apply TakeS.next | apply TakeS.app)) ?_ | exact HSub.nil _ | exact HSub.refl _ | refine HSub.drop ?_ | refine HSub.dropS ?_)) ?_
    exact ⟨rfl, rfl⟩
set_option maxHeartbeats 1000000 in
theorem write_bad (bf : Nat) {a : Int} {n cap : Nat} {ad : Option Addr} (ha : I64 a) (hn : n ≤ 4611686018427387904) (hb : badW a ((n / 8 : Nat) : Int)) : Pure Tryd.prog (fun _ => True) 32 [.pointer (some ⟨bf, 0, none⟩), .int .i64 a, .slice ad n cap] (.int .i64 1) := by
  intro w0 H hT
  refine L_enter Tryd.func32 rfl Tryd.ntmps32 rfl rfl ?_
  refine W_sr ?_
  refine W_assign rfl rfl ?_
  refine W_nil ?_
  refine W_sr ?_
  refine W_move rfl rfl ?_
  refine W_move rfl rfl ?_
  refine W_move rfl rfl ?_
  refine W_len rfl ty23 rfl rfl ?_
  refine W_bin rfl rfl (b_quo (m := (((n / 8 : Nat) : Int) : Int)) (by decide) (quo8 (by omega) (by omega))) rfl ?_
  refine W_callp (.cons rfl (.cons rfl (.cons rfl .nil))) Tryd.call73 rfl (T := fun _ => True) trivial (words_bad _ ha ⟨by omega, by omega⟩ hb) ?_
  refine W_move rfl rfl ?_
  refine W_extract rfl rfl rfl ?_
  refine W_extract rfl rfl rfl ?_
  refine W_assign rfl rfl ?_
  refine W_assign rfl rfl ?_
  refine W_nil ?_
  refine W_seq ?_
  refine W_block ?_
  refine W_sr ?_
  refine W_move rfl rfl ?_
  refine W_bin rfl rfl b_neq rfl ?_
  refine W_assign rfl rfl ?_
  refine W_nil ?_
  refine W_condT rfl rfl ?_
  refine W_sr ?_
  refine W_move rfl rfl ?_
  refine W_assign rfl rfl ?_
  refine W_nil ?_
  refine W_ret1m (H2 := H) Tryd.results32 rfl (.nil _) (by repeat (first | with_reducible exact HSub.refl _ | refine HSub.cons (by repeat (first | exact Take.here _ | apply Take.next | apply Take.app)) ?_ | refine HSub.app (by repeat (first | with_reducible exact TakeS.here _ | apply TakeS.next | apply TakeS.app)) ?_ | exact HSub.nil _ | exact HSub.refl _ | refine HSub.drop ?_ | refine HSub.dropS ?_)) ?_
  exact ⟨rfl, rfl⟩
set_option maxHeartbeats 1000000 in
theorem write_odd (bf : Nat) {an n cap : Nat} {ad : Option Addr} (hn : n ≤ 4611686018427387904) (hb : an + n / 8 ≤ 8) (ho : n % 8 ≠ 0) : Pure Tryd.prog (fun _ => True) 32 [.pointer (some ⟨bf, 0, none⟩), .int .i64 (an : Int), .slice ad n cap] (.int .i64 1) := by
  intro w0 H hT
  refine L_enter Tryd.func32 rfl Tryd.ntmps32 rfl rfl ?_
  refine W_sr ?_
  refine W_assign rfl rfl ?_
  refine W_nil ?_
  refine W_sr ?_
  refine W_move rfl rfl ?_
  refine W_move rfl rfl ?_
  refine W_move rfl rfl ?_
  refine W_len rfl ty23 rfl rfl ?_
  refine W_bin rfl rfl (b_quo (m := (((n / 8 : Nat) : Int) : Int)) (by decide) (quo8 (by omega) (by omega))) rfl ?_
  refine W_callp (.cons rfl (.cons rfl (.cons rfl .nil))) Tryd.call73 rfl (T := fun _ => True) trivial (words_ok _ hb) ?_
  refine W_move rfl rfl ?_
  refine W_extract rfl rfl rfl ?_
  refine W_extract rfl rfl rfl ?_
  refine W_assign rfl rfl ?_
  refine W_assign rfl rfl ?_
  refine W_nil ?_
  refine W_seq ?_
  refine W_block ?_
  refine W_sr ?_
  refine W_move rfl rfl ?_
  refine W_bin rfl rfl b_neq rfl ?_
  refine W_assign rfl rfl ?_
  refine W_nil ?_
  refine W_condF rfl rfl ?_
  refine W_sr ?_
  refine W_move rfl rfl ?_
  refine W_len rfl ty23 rfl rfl ?_
  refine W_bin rfl rfl (b_rem (by decide) rem8) rfl ?_
  refine W_bin rfl rfl b_neq rfl ?_
  refine W_assign rfl rfl ?_
  refine W_nil ?_
  refine W_condT rfl (by simp; omega) ?_
  refine W_sr ?_
  refine W_assign rfl rfl ?_
  refine W_nil ?_
  refine W_ret1m (H2 := H) Tryd.results32 rfl (.nil _) (by repeat (first | with_reducible exact HSub.refl _ | refine HSub.cons (by repeat (first | exact Take.here _ | apply Take.next | apply Take.app)) ?_ | refine HSub.app (by repeat (first | with_reducible exact TakeS.here _ | apply TakeS.next | apply TakeS.app)) ?_ | exact HSub.nil _ | exact HSub.refl _ | refine HSub.drop ?_ | refine HSub.dropS ?_)) ?_
  exact ⟨rfl, rfl⟩
set_option maxHeartbeats 1000000 in
theorem rnum_pure (n : Int) : Pure Tryd.prog (fun _ => True) 72 [.int .u64 n] (.agg (vaC ⟨false, 0, 0, 0, n⟩).toArray) := by
  intro w0 H hT
  refine L_enter Tryd.func72 rfl Tryd.ntmps72 rfl rfl ?_
  refine W_sr ?_
  refine W_alloc ty55 rfl rfl (fun b2 => ?_)
  refine W_nil ?_
  refine W_sr ?_
  refine W_move rfl rfl ?_
  refine W_build ty55 pl55 (.cons rfl rfl rfl rfl rfl .nil) rfl (by simp only [fillL, spliceL, Value.cells, List.take_zero, List.take_succ_cons, List.take_nil, List.drop_zero, List.drop_succ_cons, List.drop_nil, List.nil_append, List.cons_append, List.append_nil, List.length_cons, List.length_nil, Nat.zero_add, Nat.reduceAdd, List.toList_toArray]; rfl) rfl ?_
  refine W_storeA rfl rfl ty55 rfl rfl (by repeat (first | exact List.mem_cons_self | apply List.mem_cons_of_mem | apply List.mem_append_right)) (Nat.le_of_ble_eq_true rfl) (by simp only [fillL, spliceL, Value.cells, List.take_zero, List.take_succ_cons, List.take_nil, List.drop_zero, List.drop_succ_cons, List.drop_nil, List.nil_append, List.cons_append, List.append_nil, List.length_cons, List.length_nil, Nat.zero_add, Nat.reduceAdd, List.toList_toArray]; rfl) (by repeat (first | exact Upd.head _ | apply Upd.tail | apply Upd.app)) ?_
  refine W_nil ?_
  refine W_ret1cO (H2 := H) Tryd.results72 rfl (.nil _) ty55 rfl (by repeat (first | exact List.mem_cons_self | apply List.mem_cons_of_mem | apply List.mem_append_right)) rfl (by repeat (first | with_reducible exact HSub.refl _ | refine HSub.cons (by repeat (first | exact Take.here _ | apply Take.next | apply Take.app)) ?_ | refine HSub.app (by repeat (first | with_reducible exact TakeS.here _ | apply TakeS.next | apply TakeS.app)) ?_ | exact HSub.nil _ | exact HSub.refl _ | refine HSub.drop ?_ | refine HSub.dropS ?_)) ?_
  exact ⟨rfl, rfl⟩

theorem splice_all {l l' : List Value} (h : l.length = l'.length) : spliceL l 0 l'.toArray.toList = l' := by
  unfold spliceL
  simp [h]
set_option maxHeartbeats 1000000 in
theorem rwrite_q {w0 : World} {H : Heap} {V : List Va} {b : List Int} {ad : Option Addr} {cap an nn : Nat} (hV : V.length = 18) (hb : an + nn ≤ 8) (hbl : b.length = 8 * nn) (hB : Bytes b) (hrow : Holds w0 H ad (byV b))  : PureAt Tryd.prog w0 H 31 [.agg (vaRow V).toArray, .int .i64 (an : Int), .slice ad b.length cap] (.tuple #[.agg (vaRow (wrN V an b nn)).toArray, .int .i64 0]) := by
  have hbl' : b.length / 8 = nn := by omega
  refine L_enter Tryd.func31 rfl Tryd.ntmps31 rfl rfl ?_
  refine W_sr ?_
  refine W_box rfl rfl rfl (fun b3 => ?_)
  show W _ _ _ _ _ _ _ _ ((b3, .cells 60 (vaRow V).length (vaRow V)) :: H)
  rw [show (vaRow V).length = 90 by rw [vaRow_len, hV]]
  refine W_alloc (l := vaRow (List.replicate 18 zeroV)) ty60 rfl rfl (fun b6 => ?_)
  refine W_assign rfl rfl ?_
  refine W_nil ?_
  refine W_sr ?_
  refine W_move rfl rfl ?_
  refine W_len rfl ty23 rfl rfl ?_
  refine W_bin rfl rfl (b_quo (m := (nn : Int)) (by decide) (quo8 (by omega) (by omega))) rfl ?_
  refine W_assign rfl rfl ?_
  refine W_nil ?_
  refine W_seq ?_
  refine W_sr ?_
  refine W_move rfl rfl ?_
  refine W_len rfl ty23 rfl rfl ?_
  refine W_bin rfl rfl (b_rem (by decide) rem8) rfl ?_
  refine W_bin rfl rfl b_neq rfl ?_
  refine W_move rfl rfl ?_
  apply W_or
  iterate 4 exact rfl
  case h1 =>
    intro hg4
    refine W_gyes rfl rfl ?_
    refine W_move rfl rfl ?_
    refine W_gyes rfl rfl ?_
    refine W_bin rfl rfl b_lss rfl ?_
    exact W_met rfl (by repeat (first | exact .refl | refine .cons rfl ?_))
  refine W_move rfl rfl ?_
  apply W_or
  iterate 4 exact rfl
  case h1 =>
    intro hg8
    refine W_gyes rfl rfl ?_
    refine W_move rfl rfl ?_
    refine W_gyes rfl rfl ?_
    refine W_bin rfl rfl b_gtr rfl ?_
    exact W_met rfl (by repeat (first | exact .refl | refine .cons rfl ?_))
  refine W_move rfl rfl ?_
  apply W_or
  iterate 4 exact rfl
  case h1 =>
    intro hg12
    refine W_gyes rfl rfl ?_
    refine W_move rfl rfl ?_
    refine W_gyes rfl rfl ?_
    refine W_move rfl rfl ?_
    refine W_gyes rfl rfl ?_
    refine W_bin rfl rfl (b_sub (m := 8 - (an : Int)) (i64w (by omega))) rfl ?_
    refine W_gyes rfl rfl ?_
    refine W_bin rfl rfl b_gtr rfl ?_
    exact W_met rfl (by repeat (first | exact .refl | refine .cons rfl ?_))
  refine W_nil ?_
  refine W_condF rfl (by simp; omega) ?_
  refine W_skip ?_
  refine W_seq ?_
  refine W_sr ?_
  refine W_assign rfl rfl ?_
  refine W_nil ?_
  refine W_block ?_
  refine W_loopC (X := Nat) [(1, _), (2, _), (3, _), (6, _), (8, _)] (fun (k : Nat) => [(9, .int .i64 (k : Int))]) (fun _ => _) (fun (k : Nat) => (b6, .cells 60 90 (vaRow (List.replicate 18 zeroV))) :: (b3, .cells 60 90 (vaRow (wrN V an b k))) :: H) (fun (k : Nat) => k ≤ nn) (fun (k : Nat) => nn - k) 0 (Nat.zero_le _) (sub_cons rfl (sub_cons rfl (sub_cons rfl (sub_cons rfl (sub_cons rfl (sub_nil _)))))) (sub_cons rfl (sub_nil _)) rfl (by repeat (first | with_reducible exact HSub.refl _ | refine HSub.cons (by repeat (first | exact Take.here _ | apply Take.next | apply Take.app)) ?_ | refine HSub.app (by repeat (first | with_reducible exact TakeS.here _ | apply TakeS.next | apply TakeS.app)) ?_ | exact HSub.nil _ | exact HSub.refl _ | refine HSub.drop ?_ | refine HSub.dropS ?_)) ?_
  intro k hk
  have hwl := (wrN_len V an b k).trans hV
  simp only [List.cons_append, List.nil_append]
  refine W_seq ?_
  refine W_sr ?_
  refine W_move rfl rfl ?_
  refine W_move rfl rfl ?_
  refine W_bin rfl rfl b_lss rfl ?_
  refine W_nil ?_
  refine W_condPS (p := (k : Int) < (nn : Int)) rfl (by simp) (fun c0 => ?_) (fun c0 => ?_)
  · skip
    refine W_skip ?_
    refine W_seq ?_
    refine W_block ?_
    refine W_sr ?_
    refine W_assign rfl rfl ?_
    refine W_nil ?_
    refine W_seq ?_
    refine W_sr ?_
    refine W_assign rfl rfl ?_
    refine W_nil ?_
    refine W_block ?_
    refine W_loopC (X := Nat) [(1, _), (2, _), (3, _), (6, _), (8, _), (9, _)] (fun (m : Nat) => [(10, .int .u64 (numL ((chunk b k).drop m))), (11, .int .i64 ((m : Int) - 1))]) (fun _ => _) (fun _ => _) (fun (m : Nat) => m ≤ 8) (fun (m : Nat) => m) 8 (by decide) (sub_cons rfl (sub_cons rfl (sub_cons rfl (sub_cons rfl (sub_cons rfl (sub_cons rfl (sub_nil _))))))) (sub_cons (by rw [List.drop_of_length_le (Nat.le_of_eq (chunk_len hbl (by omega)))]; rfl) (sub_cons rfl (sub_nil _))) rfl (by repeat (first | with_reducible exact HSub.refl _ | refine HSub.cons (by repeat (first | exact Take.here _ | apply Take.next | apply Take.app)) ?_ | refine HSub.app (by repeat (first | with_reducible exact TakeS.here _ | apply TakeS.next | apply TakeS.app)) ?_ | exact HSub.nil _ | exact HSub.refl _ | refine HSub.drop ?_ | refine HSub.dropS ?_)) ?_
    intro m hm
    simp only [List.cons_append, List.nil_append]
    refine W_seq ?_
    refine W_sr ?_
    refine W_move rfl rfl ?_
    refine W_bin rfl rfl b_geq rfl ?_
    refine W_nil ?_
    refine W_condPS (p := 0 < m) rfl (by simp; omega) (fun c1 => ?_) (fun c1 => ?_)
    · skip
      refine W_skip ?_
      refine W_seq ?_
      refine W_block ?_
      refine W_region ?_
      obtain ⟨j, rfl⟩ : ∃ j, m = j + 1 := ⟨m - 1, by omega⟩
      have hn8 := numL_le (hB.chunk k |>.drop (j + 1)) (k := 7) (by rw [List.length_drop, chunk_len hbl (by omega)]; omega)
      obtain ⟨b0, o0, rfl, hcb⟩ := hrow.at (i := 8 * k + j) (v := .int .u8 (b.getD (8 * k + j) 0)) (byV_get (by omega))
      have hbb := hB.getD (8 * k + j)
      have hna : (numL ((chunk b k).drop j)) = b.getD (8 * k + j) 0 + 256 * (numL ((chunk b k).drop (j + 1))) := by rw [numL_at (by rw [chunk_len hbl (by omega)]; omega), chunk_get b k (by omega)]
      refine W_move rfl rfl ?_
      refine W_bin rfl rfl (b_mul (m := (numL ((chunk b k).drop (j + 1))) * 256) (u64_id (by omega))) rfl ?_
      refine W_move rfl rfl ?_
      refine W_move rfl rfl ?_
      refine W_bin rfl rfl (b_mul (m := 8 * (k : Int)) (i64w (by omega))) rfl ?_
      refine W_move rfl rfl ?_
      refine W_bin rfl rfl (b_add (m := ((8 * k + j : Nat) : Int)) ((i64w (by omega)).trans (by omega))) rfl ?_
      refine W_indexAddr (j := (8 * k + j)) rfl rfl ty23 ty5 (by first | rfl | omega) (by first | decide | omega | simp) rfl rfl ?_
      refine W_load rfl ty5 rfl (v := .int .u8 (b.getD (8 * k + j) 0)) (by rw [Nat.mul_one]; exact hcb.up (by repeat (first | with_reducible exact HSub.refl _ | refine HSub.cons (by repeat (first | exact Take.here _ | apply Take.next | apply Take.app)) ?_ | refine HSub.app (by repeat (first | with_reducible exact TakeS.here _ | apply TakeS.next | apply TakeS.app)) ?_ | exact HSub.nil _ | exact HSub.refl _ | refine HSub.drop ?_ | refine HSub.dropS ?_))) rfl ?_
      refine W_conv (m := b.getD (8 * k + j) 0) rfl ty5 ty22 (u64_id (by omega)) rfl ?_
      refine W_bin rfl rfl (b_add (m := (numL ((chunk b k).drop j))) ((u64_id (by omega)).trans (by omega))) rfl ?_
      refine W_assign rfl rfl ?_
      refine W_nil ?_
      refine W_blk ?_
      refine W_region ?_
      refine W_move rfl rfl ?_
      refine W_bin rfl rfl (b_sub (m := (j : Int) - 1) ((i64w (by omega)).trans (by omega))) rfl ?_
      refine W_assign rfl rfl ?_
      refine W_nil ?_
      refine W_again j (by omega) (by omega) (sub_cons rfl (sub_cons rfl (sub_cons rfl (sub_cons rfl (sub_cons rfl (sub_cons rfl (sub_cons rfl (sub_cons rfl (sub_nil _))))))))) rfl (by repeat (first | with_reducible exact HSub.refl _ | refine HSub.cons (by repeat (first | exact Take.here _ | apply Take.next | apply Take.app)) ?_ | refine HSub.app (by repeat (first | with_reducible exact TakeS.here _ | apply TakeS.next | apply TakeS.app)) ?_ | exact HSub.nil _ | exact HSub.refl _ | refine HSub.drop ?_ | refine HSub.dropS ?_))
    · skip
      refine W_exit rfl ?_
      refine W_region ?_
      obtain rfl : m = 0 := by omega
      refine W_move rfl rfl ?_
      refine W_bin rfl rfl (b_add (m := ((10 + an : Nat) : Int)) ((i64w (by omega)).trans (by omega))) rfl ?_
      refine W_move rfl rfl ?_
      refine W_bin rfl rfl (b_add (m := ((10 + an + k : Nat) : Int)) ((i64w (by omega)).trans (by omega))) rfl ?_
      refine W_move rfl rfl ?_
      refine W_callp (.cons rfl .nil) Tryd.call72 rfl (T := fun _ => True) trivial (rnum_pure _) ?_
      refine W_fieldAddr rfl fld60_0 (by decide) rfl ?_
      refine W_indexAddrA (j := (10 + an + k)) rfl rfl ty58 ty55 (by first | rfl | omega) (by first | decide | omega | simp) rfl rfl ?_
      rw [List.drop_zero]
      refine W_storeA rfl rfl ty55 rfl rfl (b := b3) (by repeat (first | exact List.mem_cons_self | apply List.mem_cons_of_mem | apply List.mem_append_right)) (by rw [vaRow_len]; exact (by omega : 0 + 0 + (10 + an + k) * 5 + 5 ≤ (wrN V an b k).length * 5)) ((congrArg (fun z => spliceL (vaRow (wrN V an b k)) z (vaC ⟨false, 0, 0, 0, numL (chunk b k)⟩)) (Nat.zero_add ((10 + an + k) * 5))).trans (va_set ⟨false, 0, 0, 0, numL (chunk b k)⟩ (by omega))) (by repeat (first | exact Upd.head _ | apply Upd.tail | apply Upd.app)) ?_
      refine W_nil ?_
      refine W_blk ?_
      refine W_region ?_
      refine W_move rfl rfl ?_
      refine W_bin rfl rfl (b_add (m := ((k + 1 : Nat) : Int)) ((i64w (by omega)).trans (by omega))) rfl ?_
      refine W_assign rfl rfl ?_
      refine W_nil ?_
      refine W_again (k + 1) (by omega) (by omega) (sub_cons rfl (sub_cons rfl (sub_cons rfl (sub_cons rfl (sub_cons rfl (sub_cons rfl (sub_nil _))))))) rfl (by repeat (first | with_reducible exact HSub.refl _ | refine HSub.cons (by repeat (first | exact Take.here _ | apply Take.next | apply Take.app)) ?_ | refine HSub.app (by repeat (first | with_reducible exact TakeS.here _ | apply TakeS.next | apply TakeS.app)) ?_ | exact HSub.nil _ | exact HSub.refl _ | refine HSub.drop ?_ | refine HSub.dropS ?_))
  · skip
    refine W_exit rfl ?_
    refine W_sr ?_
    obtain rfl : k = nn := by omega
    refine W_loadB (vs := vaRow (wrN V an b k)) rfl ty60 rfl (b := b3) (by repeat (first | exact List.mem_cons_self | apply List.mem_cons_of_mem | apply List.mem_append_right)) (by show Nat.ble _ (vaRow (wrN V an b k)).length = true; rw [vaRow_len, Nat.ble_eq]; omega) (by rw [List.drop_zero, List.take_of_length_le (by rw [vaRow_len]; omega)]) rfl ?_
    refine W_storeA (l' := vaRow (wrN V an b k)) rfl rfl ty60 (va_one _) (by show (vaRow (wrN V an b k)).length = 90; rw [vaRow_len]; omega) (b := b6) (by repeat (first | exact List.mem_cons_self | apply List.mem_cons_of_mem | apply List.mem_append_right)) (by exact Nat.le_refl 90) (splice_all (by rw [vaRow_len, List.length_replicate, vaRow_len]; omega)) (by repeat (first | exact Upd.head _ | apply Upd.tail | apply Upd.app)) ?_
    refine W_assign rfl rfl ?_
    refine W_nil ?_
    refine W_ret2G (H2 := H) Tryd.results31 (.nil _) (.own rfl ty60 rfl (by repeat (first | exact List.mem_cons_self | apply List.mem_cons_of_mem | apply List.mem_append_right)) (by rw [vaRow_len]; omega)) (.tmp rfl) (by repeat (first | with_reducible exact HSub.refl _ | refine HSub.cons (by repeat (first | exact Take.here _ | apply Take.next | apply Take.app)) ?_ | refine HSub.app (by repeat (first | with_reducible exact TakeS.here _ | apply TakeS.next | apply TakeS.app)) ?_ | exact HSub.nil _ | exact HSub.refl _ | refine HSub.drop ?_ | refine HSub.dropS ?_)) ?_
    exact ⟨rfl, rfl⟩
set_option maxHeartbeats 1000000 in
theorem rwrite_bad {V : List Va} {a : Int} {n cap : Nat} {ad : Option Addr} (hV : V.length = 18) (ha : I64 a) (hn : n ≤ 4611686018427387904) (hb : n % 8 ≠ 0 ∨ badW a ((n / 8 : Nat) : Int)) : Pure Tryd.prog (fun _ => True) 31 [.agg (vaRow V).toArray, .int .i64 a, .slice ad n cap] (.tuple #[.agg (vaRow V).toArray, .int .i64 1]) := by
  intro w0 H hT
  unfold badW at hb
  refine L_enter Tryd.func31 rfl Tryd.ntmps31 rfl rfl ?_
  refine W_sr ?_
  refine W_box rfl rfl rfl (fun b3 => ?_)
  show W _ _ _ _ _ _ _ _ ((b3, .cells 60 (vaRow V).length (vaRow V)) :: H)
  rw [show (vaRow V).length = 90 by rw [vaRow_len, hV]]
  refine W_alloc (l := vaRow (List.replicate 18 zeroV)) ty60 rfl rfl (fun b6 => ?_)
  refine W_assign rfl rfl ?_
  refine W_nil ?_
  refine W_sr ?_
  refine W_move rfl rfl ?_
  refine W_len rfl ty23 rfl rfl ?_
  refine W_bin rfl rfl (b_quo (m := (((n / 8 : Nat) : Int) : Int)) (by decide) (quo8 (by omega) (by omega))) rfl ?_
  refine W_assign rfl rfl ?_
  refine W_nil ?_
  refine W_seq ?_
  refine W_sr ?_
  refine W_move rfl rfl ?_
  refine W_len rfl ty23 rfl rfl ?_
  refine W_bin rfl rfl (b_rem (by decide) rem8) rfl ?_
  refine W_bin rfl rfl b_neq rfl ?_
  refine W_move rfl rfl ?_
  apply W_or
  iterate 4 exact rfl
  case h1 =>
    intro hg4
    refine W_gyes rfl rfl ?_
    refine W_move rfl rfl ?_
    refine W_gyes rfl rfl ?_
    refine W_bin rfl rfl b_lss rfl ?_
    exact W_met rfl (by repeat (first | exact .refl | refine .cons rfl ?_))
  refine W_move rfl rfl ?_
  apply W_or
  iterate 4 exact rfl
  case h1 =>
    intro hg8
    refine W_gyes rfl rfl ?_
    refine W_move rfl rfl ?_
    refine W_gyes rfl rfl ?_
    refine W_bin rfl rfl b_gtr rfl ?_
    exact W_met rfl (by repeat (first | exact .refl | refine .cons rfl ?_))
  refine W_move rfl rfl ?_
  apply W_or
  iterate 4 exact rfl
  case h1 =>
    intro hg12
    have hg := hg12
    simp only [Bool.or_eq_false_iff, decide_eq_false_iff_not] at hg
    refine W_gyes rfl rfl ?_
    refine W_move rfl rfl ?_
    refine W_gyes rfl rfl ?_
    refine W_move rfl rfl ?_
    refine W_gyes rfl rfl ?_
    refine W_bin rfl rfl (b_sub (m := 8 - a) (i64w (by omega))) rfl ?_
    refine W_gyes rfl rfl ?_
    refine W_bin rfl rfl b_gtr rfl ?_
    exact W_met rfl (by repeat (first | exact .refl | refine .cons rfl ?_))
  refine W_nil ?_
  refine W_condT rfl (by simp; omega) ?_
  refine W_sr ?_
  refine W_loadB (vs := vaRow V) rfl ty60 rfl (b := b3) (by repeat (first | exact List.mem_cons_self | apply List.mem_cons_of_mem | apply List.mem_append_right)) (by show Nat.ble _ (vaRow V).length = true; rw [vaRow_len, Nat.ble_eq]; omega) (by rw [List.drop_zero, List.take_of_length_le (by rw [vaRow_len]; omega)]) rfl ?_
  refine W_storeA (l' := vaRow V) rfl rfl ty60 (va_one _) (by show (vaRow V).length = 90; rw [vaRow_len]; omega) (b := b6) (by repeat (first | exact List.mem_cons_self | apply List.mem_cons_of_mem | apply List.mem_append_right)) (by exact Nat.le_refl 90) (splice_all (by rw [vaRow_len, List.length_replicate, vaRow_len]; omega)) (by repeat (first | exact Upd.head _ | apply Upd.tail | apply Upd.app)) ?_
  refine W_assign rfl rfl ?_
  refine W_nil ?_
  refine W_ret2G (H2 := H) Tryd.results31 (.nil _) (.own rfl ty60 rfl (by repeat (first | exact List.mem_cons_self | apply List.mem_cons_of_mem | apply List.mem_append_right)) (by rw [vaRow_len]; omega)) (.tmp rfl) (by repeat (first | with_reducible exact HSub.refl _ | refine HSub.cons (by repeat (first | exact Take.here _ | apply Take.next | apply Take.app)) ?_ | refine HSub.app (by repeat (first | with_reducible exact TakeS.here _ | apply TakeS.next | apply TakeS.app)) ?_ | exact HSub.nil _ | exact HSub.refl _ | refine HSub.drop ?_ | refine HSub.dropS ?_)) ?_
  exact ⟨rfl, rfl⟩
end Go.Proofs.YtkhkagjbeilbgaaDoor
