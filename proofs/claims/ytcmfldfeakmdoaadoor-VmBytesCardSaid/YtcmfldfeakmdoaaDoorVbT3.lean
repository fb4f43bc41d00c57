/-
  Own work: contracts of functions that the statement reaches, and plain facts on what they compute; each theorem says its conditions.
-/
import Derived.Test.YtcmfldfeakmdoaaDoorVbT2
import Derived.Test.YtcmfldfeakmdoaaDoorVbS2
import Derived.Test.YtcmfldfeakmdoaaDoorVbT1
import Derived.Test.YtcmfldfeakmdoaaDoorVbA
set_option linter.all false
set_option linter.unusedSimpArgs false
set_option linter.unusedVariables false
namespace Go.Proofs.YtcmfldfeakmdoaaDoor
open Go Go.Sl
attribute [local irreducible] W
open Go.Script (lowL numL Bytes lowL_len lowL_bytes numL_nonneg numL_lt low_num)
def chunk (b : List Int) (k : Nat) : List Int := (b.drop (8 * k)).take 8
theorem drop_get (b : List Int) (o j : Nat) : (b.drop o).getD j 0 = b.getD (o + j) 0 := by simp [List.getD, List.getElem?_drop]
theorem chunk_get (b : List Int) (k : Nat) {j : Nat} (hj : j < 8) : (chunk b k).getD j 0 = b.getD (8 * k + j) 0 := by
  unfold chunk
  rw [← drop_get]
  simp [List.getD, List.getElem?_take_of_lt hj]
theorem chunk_len {b : List Int} {k n : Nat} (hb : b.length = 8 * n) (hk : k < n) : (chunk b k).length = 8 := by
  unfold chunk; rw [List.length_take, List.length_drop]; omega
def wrN (V : List Va) (an : Nat) (b : List Int) : Nat → List Va
  | 0 => V
  | k + 1 => (wrN V an b k).set (10 + an + k) ⟨false, 0, 0, 0, numL (chunk b k)⟩
theorem wrN_len (V : List Va) (an : Nat) (b : List Int) : ∀ k, (wrN V an b k).length = V.length
  | 0 => rfl
  | k + 1 => by show (List.set _ _ _).length = _; rw [List.length_set, wrN_len V an b k]
theorem take_chunk {b : List Int} {k i : Nat} (h : 8 * k + i < b.length) : (b.drop (8 * k)).take (i + 1) = (b.drop (8 * k)).take i ++ [b.getD (8 * k + i) 0] := by
  rw [take_at (by rw [List.length_drop]; omega), drop_get]
theorem _root_.Go.Script.Bytes.chunk {b : List Int} (h : Bytes b) (k : Nat) : Bytes (chunk b k) := (h.drop _).take _
theorem quo8 {n : Nat} {q : Nat} (h : n / 8 = q) (hn : n ≤ 4611686018427387904) : IntKind.i64.wrap ((n : Int).tdiv 8) = (q : Int) := by
  rw [Int.tdiv_eq_ediv_of_nonneg (by omega)]; exact (i64w (by omega)).trans (by omega)
theorem rem8 {n : Nat} : (n : Int).tmod 8 = ((n % 8 : Nat) : Int) := by
  rw [Int.tmod_eq_emod_of_nonneg (by omega)]; omega
set_option maxHeartbeats 1000000 in
theorem write_L {w0 : World} {H : Heap} {bf : Nat} {V : List Va} {b : List Int} {ad : Option Addr} {cap an nn : Nat} (hV : V.length = 18) (hb : an + nn ≤ 8) (hbl : b.length = 8 * nn) (hB : Bytes b) (hrow : Holds w0 H ad (byV b))  : LCalls Tryd.prog w0 44 #[.pointer (some ⟨bf, 0, none⟩), .int .i64 (an : Int), .slice ad b.length cap] ((bf, .cells 101 90 (vaRow V)) :: H) (fun v H' => v = .int .i64 0 ∧ H' = (bf, .cells 101 90 (vaRow (wrN V an b nn))) :: H) := by
  have hbl' : b.length / 8 = nn := by omega
  refine L_enter (l := [.pointer (some ⟨bf, 0, none⟩), .int .i64 (an : Int), .slice ad b.length cap]) Tryd.func44 rfl Tryd.ntmps44 rfl rfl ?_
  refine W_sr ?_
  refine W_assign rfl rfl ?_
  refine W_nil ?_
  refine W_sr ?_
  refine W_move rfl rfl ?_
  refine W_move rfl rfl ?_
  refine W_move rfl rfl ?_
  refine W_len rfl ty57 rfl rfl ?_
  refine W_bin rfl rfl (b_quo (m := (nn : Int)) (by decide) (quo8 (by omega) (by omega))) rfl ?_
  refine W_callp (.cons rfl (.cons rfl (.cons rfl .nil))) Tryd.call64 rfl (T := fun _ => True) trivial (words_ok _ hb) ?_
  refine W_move rfl rfl ?_
  refine W_extract rfl rfl rfl ?_
  refine W_extract rfl rfl rfl ?_
  refine W_assign rfl rfl ?_
  refine W_assign rfl rfl ?_
  refine W_nil ?_
  refine W_seq ?_
  refine W_block ?_
  refine W_sr ?_
  refine W_move rfl rfl ?_
  refine W_bin rfl rfl b_neq rfl ?_
  refine W_assign rfl rfl ?_
  refine W_nil ?_
  refine W_condF rfl rfl ?_
  refine W_sr ?_
  refine W_move rfl rfl ?_
  refine W_len rfl ty57 rfl rfl ?_
  refine W_bin rfl rfl (b_rem (by decide) rem8) rfl ?_
  refine W_bin rfl rfl b_neq rfl ?_
  refine W_assign rfl rfl ?_
  refine W_nil ?_
  refine W_condF rfl (by rw [hbl]; simp) ?_
  refine W_skip ?_
  refine W_blk ?_
  refine W_seq ?_
  refine W_sr ?_
  refine W_move rfl rfl ?_
  refine W_len rfl ty33 rfl rfl ?_
  refine W_move rfl rfl ?_
  refine W_nil ?_
  refine W_block ?_
  refine W_loopC (X := Nat) [(2, _), (7, _), (31, _)] (fun (k : Nat) => [(32, .int .i64 (k : Int))]) (fun _ => _) (fun (k : Nat) => (bf, .cells 101 90 (vaRow (wrN V an b k))) :: H) (fun (k : Nat) => k ≤ nn) (fun (k : Nat) => nn - k) 0 (Nat.zero_le _) (sub_cons rfl (sub_cons rfl (sub_cons rfl (sub_nil _)))) (sub_cons rfl (sub_nil _)) rfl zH ?_
  intro k hk
  have hwl := (wrN_len V an b k).trans hV
  simp only [List.cons_append, List.nil_append]
  refine W_sr ?_
  refine W_bin rfl rfl b_lss rfl ?_
  refine W_nil ?_
  refine W_seq ?_
  refine W_condPS (p := (k : Int) < (nn : Int)) rfl (by simp) (fun c0 => ?_) (fun c0 => ?_)
  · skip
    refine W_skip ?_
    refine W_seq ?_
    refine W_block ?_
    refine W_sr ?_
    refine W_move rfl rfl ?_
    refine W_assign rfl rfl ?_
    refine W_nil ?_
    refine W_sr ?_
    refine W_assign rfl rfl ?_
    refine W_nil ?_
    refine W_seq ?_
    refine W_sr ?_
    refine W_move rfl rfl ?_
    refine W_nil ?_
    refine W_block ?_
    refine W_loopC (X := Nat) [(2, _), (7, _), (9, _), (31, _), (32, _)] (fun (i : Nat) => [(35, .int .i64 (i : Int)), (10, .int .u64 (numL ((b.drop (8 * k)).take i)))]) (fun _ => _) (fun _ => _) (fun (i : Nat) => i ≤ 8) (fun (i : Nat) => 8 - i) 0 (by decide) (sub_cons rfl (sub_cons rfl (sub_cons rfl (sub_cons rfl (sub_cons rfl (sub_nil _)))))) (sub_cons rfl (sub_cons rfl (sub_nil _))) rfl zH ?_
    intro i hi
    simp only [List.cons_append, List.nil_append]
    refine W_sr ?_
    refine W_bin rfl rfl b_lss rfl ?_
    refine W_nil ?_
    refine W_seq ?_
    refine W_condPS (p := (i : Int) < 8) rfl (by simp) (fun c1 => ?_) (fun c1 => ?_)
    · skip
      refine W_skip ?_
      refine W_seq ?_
      refine W_block ?_
      refine W_sr ?_
      refine W_move rfl rfl ?_
      refine W_assign rfl rfl ?_
      refine W_nil ?_
      refine W_region ?_
      obtain ⟨b0, o0, rfl, hcb⟩ := hrow.at (i := 8 * k + i) (v := .int .u8 (b.getD (8 * k + i) 0)) (byV_get (by omega))
      have hbb := hB.getD (8 * k + i)
      refine W_move rfl rfl ?_
      refine W_move rfl rfl ?_
      refine W_move rfl rfl ?_
      refine W_bin rfl rfl (b_mul (m := 8 * (k : Int)) (i64w (by omega))) rfl ?_
      refine W_move rfl rfl ?_
      refine W_bin rfl rfl (b_add (m := ((8 * k + i : Nat) : Int)) ((i64w (by omega)).trans (by omega))) rfl ?_
      refine W_indexAddr (j := (8 * k + i)) rfl rfl ty57 ty5 (by first | rfl | omega) (by first | decide | omega | simp) rfl rfl ?_
      refine W_load rfl ty5 rfl (v := .int .u8 (b.getD (8 * k + i) 0)) (by rw [Nat.mul_one]; exact hcb.up zH) rfl ?_
      refine W_conv (m := b.getD (8 * k + i) 0) rfl ty5 ty28 (u64_id (by omega)) rfl ?_
      refine W_move rfl rfl ?_
      refine W_bin rfl rfl (b_mul (m := 8 * (i : Int)) (i64w (by omega))) rfl ?_
      refine W_bin rfl rfl (b_shl (m := 256 ^ i * b.getD (8 * k + i) 0) (by omega) (shl_n (by omega) hbb)) rfl ?_
      refine W_bin rfl rfl (b_or (m := (numL ((b.drop (8 * k)).take (i + 1)))) (by rw [take_chunk (by omega), numL_snoc, show ((b.drop (8 * k)).take i).length = i by rw [List.length_take, List.length_drop]; omega]; exact or_high (by omega) (numL_le ((hB.drop _).take _) (by rw [List.length_take]; omega)) hbb)) rfl ?_
      refine W_assign rfl rfl ?_
      refine W_nil ?_
      refine W_blk ?_
      refine W_region ?_
      refine W_bin rfl rfl (b_add (m := ((i + 1 : Nat) : Int)) ((i64w (by omega)).trans (by omega))) rfl ?_
      refine W_move rfl rfl ?_
      refine W_nil ?_
      refine W_again (i + 1) (by omega) (by omega) (sub_cons rfl (sub_cons rfl (sub_cons rfl (sub_cons rfl (sub_cons rfl (sub_cons rfl (sub_cons rfl (sub_nil _)))))))) rfl zH
    · skip
      refine W_exit rfl ?_
      refine W_region ?_
      obtain rfl : i = 8 := by omega
      refine W_move rfl rfl ?_
      refine W_move rfl rfl ?_
      refine W_move rfl rfl ?_
      refine W_callp (.cons rfl .nil) Tryd.call21 rfl (T := fun _ => True) trivial (Num_pure _) ?_
      refine W_indexAddr (j := k) rfl rfl ty33 ty41 (by first | rfl | omega) (by first | decide | omega | simp) rfl rfl ?_
      refine W_storeA rfl rfl ty41 rfl rfl (b := bf) zM (by rw [vaRow_len, wOff_at hb (by omega), hwl]; show (10 + an + k) * 5 + 5 ≤ 90; omega) ((congrArg (fun z => spliceL (vaRow (wrN V an b k)) z (vaC ⟨false, 0, 0, 0, numL (chunk b k)⟩)) (wOff_at hb (by omega))).trans (va_set ⟨false, 0, 0, 0, numL (chunk b k)⟩ (by omega))) zU ?_
      refine W_nil ?_
      refine W_blk ?_
      refine W_region ?_
      refine W_bin rfl rfl (b_add (m := ((k + 1 : Nat) : Int)) ((i64w (by omega)).trans (by omega))) rfl ?_
      refine W_move rfl rfl ?_
      refine W_nil ?_
      refine W_again (k + 1) (by omega) (by omega) (sub_cons rfl (sub_cons rfl (sub_cons rfl (sub_cons rfl (sub_nil _))))) rfl zH
  · skip
    refine W_exit rfl ?_
    refine W_sr ?_
    obtain rfl : k = nn := by omega
    refine W_assign rfl rfl ?_
    refine W_nil ?_
    refine W_ret1m (H2 := (bf, .cells 101 90 (vaRow (wrN V an b k))) :: H) Tryd.results44 rfl (.nil _) zH ?_
    exact ⟨rfl, rfl⟩
set_option maxHeartbeats 1000000 in
theorem write_bad (bf : Nat) {a : Int} {n cap : Nat} {ad : Option Addr} (ha : I64 a) (hn : n ≤ 4611686018427387904) (hb : badW a ((n / 8 : Nat) : Int)) : Pure Tryd.prog (fun _ => True) 44 [.pointer (some ⟨bf, 0, none⟩), .int .i64 a, .slice ad n cap] (.int .i64 1) := by
  intro w0 H hT
  refine L_enter Tryd.func44 rfl Tryd.ntmps44 rfl rfl ?_
  refine W_sr ?_
  refine W_assign rfl rfl ?_
  refine W_nil ?_
  refine W_sr ?_
  refine W_move rfl rfl ?_
  refine W_move rfl rfl ?_
  refine W_move rfl rfl ?_
  refine W_len rfl ty57 rfl rfl ?_
  refine W_bin rfl rfl (b_quo (m := (((n / 8 : Nat) : Int) : Int)) (by decide) (quo8 (by omega) (by omega))) rfl ?_
  refine W_callp (.cons rfl (.cons rfl (.cons rfl .nil))) Tryd.call64 rfl (T := fun _ => True) trivial (words_bad _ ha ⟨by omega, by omega⟩ hb) ?_
  refine W_move rfl rfl ?_
  refine W_extract rfl rfl rfl ?_
  refine W_extract rfl rfl rfl ?_
  refine W_assign rfl rfl ?_
  refine W_assign rfl rfl ?_
  refine W_nil ?_
  refine W_seq ?_
  refine W_block ?_
  refine W_sr ?_
  refine W_move rfl rfl ?_
  refine W_bin rfl rfl b_neq rfl ?_
  refine W_assign rfl rfl ?_
  refine W_nil ?_
  refine W_condT rfl rfl ?_
  refine W_sr ?_
  refine W_move rfl rfl ?_
  refine W_assign rfl rfl ?_
  refine W_nil ?_
  refine W_ret1m (H2 := H) Tryd.results44 rfl (.nil _) zH ?_
  exact ⟨rfl, rfl⟩
set_option maxHeartbeats 1000000 in
theorem write_odd (bf : Nat) {an n cap : Nat} {ad : Option Addr} (hn : n ≤ 4611686018427387904) (hb : an + n / 8 ≤ 8) (ho : n % 8 ≠ 0) : Pure Tryd.prog (fun _ => True) 44 [.pointer (some ⟨bf, 0, none⟩), .int .i64 (an : Int), .slice ad n cap] (.int .i64 1) := by
  intro w0 H hT
  refine L_enter Tryd.func44 rfl Tryd.ntmps44 rfl rfl ?_
  refine W_sr ?_
  refine W_assign rfl rfl ?_
  refine W_nil ?_
  refine W_sr ?_
  refine W_move rfl rfl ?_
  refine W_move rfl rfl ?_
  refine W_move rfl rfl ?_
  refine W_len rfl ty57 rfl rfl ?_
  refine W_bin rfl rfl (b_quo (m := (((n / 8 : Nat) : Int) : Int)) (by decide) (quo8 (by omega) (by omega))) rfl ?_
  refine W_callp (.cons rfl (.cons rfl (.cons rfl .nil))) Tryd.call64 rfl (T := fun _ => True) trivial (words_ok _ hb) ?_
  refine W_move rfl rfl ?_
  refine W_extract rfl rfl rfl ?_
  refine W_extract rfl rfl rfl ?_
  refine W_assign rfl rfl ?_
  refine W_assign rfl rfl ?_
  refine W_nil ?_
  refine W_seq ?_
  refine W_block ?_
  refine W_sr ?_
  refine W_move rfl rfl ?_
  refine W_bin rfl rfl b_neq rfl ?_
  refine W_assign rfl rfl ?_
  refine W_nil ?_
  refine W_condF rfl rfl ?_
  refine W_sr ?_
  refine W_move rfl rfl ?_
  refine W_len rfl ty57 rfl rfl ?_
  refine W_bin rfl rfl (b_rem (by decide) rem8) rfl ?_
  refine W_bin rfl rfl b_neq rfl ?_
  refine W_assign rfl rfl ?_
  refine W_nil ?_
  refine W_condT rfl (by simp; omega) ?_
  refine W_sr ?_
  refine W_assign rfl rfl ?_
  refine W_nil ?_
  refine W_ret1m (H2 := H) Tryd.results44 rfl (.nil _) zH ?_
  exact ⟨rfl, rfl⟩
set_option maxHeartbeats 1000000 in
theorem rnum_pure (n : Int) : Pure Tryd.prog (fun _ => True) 42 [.int .u64 n] (.agg (vaC ⟨false, 0, 0, 0, n⟩).toArray) := by
  intro w0 H hT
  refine L_enter Tryd.func42 rfl Tryd.ntmps42 rfl rfl ?_
  refine W_sr ?_
  refine W_alloc ty52 rfl rfl (fun b2 => ?_)
  refine W_nil ?_
  refine W_sr ?_
  refine W_move rfl rfl ?_
  refine W_build ty52 pl52 (.cons rfl rfl rfl rfl rfl .nil) rfl zF rfl ?_
  refine W_storeA rfl rfl ty52 rfl rfl zM (Nat.le_of_ble_eq_true rfl) zF zU ?_
  refine W_nil ?_
  refine W_ret1cO (H2 := H) Tryd.results42 rfl (.nil _) ty52 rfl zM rfl zH ?_
  exact ⟨rfl, rfl⟩
theorem splice_all {l l' : List Value} (h : l.length = l'.length) : spliceL l 0 l'.toArray.toList = l' := by
  unfold spliceL
  simp [h]
set_option maxHeartbeats 1000000 in
theorem rwrite_q {w0 : World} {H : Heap} {V : List Va} {b : List Int} {ad : Option Addr} {cap an nn : Nat} (hV : V.length = 18) (hb : an + nn ≤ 8) (hbl : b.length = 8 * nn) (hB : Bytes b) (hrow : Holds w0 H ad (byV b))  : PureAt Tryd.prog w0 H 23 [.agg (vaRow V).toArray, .int .i64 (an : Int), .slice ad b.length cap] (.tuple #[.agg (vaRow (wrN V an b nn)).toArray, .int .i64 0]) := by
  have hbl' : b.length / 8 = nn := by omega
  refine L_enter Tryd.func23 rfl Tryd.ntmps23 rfl rfl ?_
  refine W_sr ?_
  refine W_box rfl rfl rfl (fun b3 => ?_)
  show W _ _ _ _ _ _ _ _ ((b3, .cells 62 (vaRow V).length (vaRow V)) :: H)
  rw [show (vaRow V).length = 90 by rw [vaRow_len, hV]]
  refine W_alloc (l := vaRow (List.replicate 18 zeroV)) ty62 rfl rfl (fun b6 => ?_)
  refine W_assign rfl rfl ?_
  refine W_nil ?_
  refine W_sr ?_
  refine W_move rfl rfl ?_
  refine W_len rfl ty57 rfl rfl ?_
  refine W_bin rfl rfl (b_quo (m := (nn : Int)) (by decide) (quo8 (by omega) (by omega))) rfl ?_
  refine W_assign rfl rfl ?_
  refine W_nil ?_
  refine W_seq ?_
  refine W_sr ?_
  refine W_move rfl rfl ?_
  refine W_len rfl ty57 rfl rfl ?_
  refine W_bin rfl rfl (b_rem (by decide) rem8) rfl ?_
  refine W_bin rfl rfl b_neq rfl ?_
  refine W_move rfl rfl ?_
  apply W_or
  iterate 4 exact rfl
  case h1 =>
    intro hg4
    refine W_gyes rfl rfl ?_
    refine W_move rfl rfl ?_
    refine W_gyes rfl rfl ?_
    refine W_bin rfl rfl b_lss rfl ?_
    exact W_met rfl zR
  refine W_move rfl rfl ?_
  apply W_or
  iterate 4 exact rfl
  case h1 =>
    intro hg8
    refine W_gyes rfl rfl ?_
    refine W_move rfl rfl ?_
    refine W_gyes rfl rfl ?_
    refine W_bin rfl rfl b_gtr rfl ?_
    exact W_met rfl zR
  refine W_move rfl rfl ?_
  apply W_or
  iterate 4 exact rfl
  case h1 =>
    intro hg12
    refine W_gyes rfl rfl ?_
    refine W_move rfl rfl ?_
    refine W_gyes rfl rfl ?_
    refine W_move rfl rfl ?_
    refine W_gyes rfl rfl ?_
    refine W_bin rfl rfl (b_sub (m := 8 - (an : Int)) (i64w (by omega))) rfl ?_
    refine W_gyes rfl rfl ?_
    refine W_bin rfl rfl b_gtr rfl ?_
    exact W_met rfl zR
  refine W_nil ?_
  refine W_condF rfl (by simp; omega) ?_
  refine W_skip ?_
  refine W_seq ?_
  refine W_sr ?_
  refine W_assign rfl rfl ?_
  refine W_nil ?_
  refine W_block ?_
  refine W_loopC (X := Nat) [(1, _), (2, _), (3, _), (6, _), (8, _)] (fun (k : Nat) => [(9, .int .i64 (k : Int))]) (fun _ => _) (fun (k : Nat) => (b6, .cells 62 90 (vaRow (List.replicate 18 zeroV))) :: (b3, .cells 62 90 (vaRow (wrN V an b k))) :: H) (fun (k : Nat) => k ≤ nn) (fun (k : Nat) => nn - k) 0 (Nat.zero_le _) (sub_cons rfl (sub_cons rfl (sub_cons rfl (sub_cons rfl (sub_cons rfl (sub_nil _)))))) (sub_cons rfl (sub_nil _)) rfl zH ?_
  intro k hk
  have hwl := (wrN_len V an b k).trans hV
  simp only [List.cons_append, List.nil_append]
  refine W_seq ?_
  refine W_sr ?_
  refine W_move rfl rfl ?_
  refine W_move rfl rfl ?_
  refine W_bin rfl rfl b_lss rfl ?_
  refine W_nil ?_
  refine W_condPS (p := (k : Int) < (nn : Int)) rfl (by simp) (fun c0 => ?_) (fun c0 => ?_)
  · skip
    refine W_skip ?_
    refine W_seq ?_
    refine W_block ?_
    refine W_sr ?_
    refine W_assign rfl rfl ?_
    refine W_nil ?_
    refine W_seq ?_
    refine W_sr ?_
    refine W_assign rfl rfl ?_
    refine W_nil ?_
    refine W_block ?_
    refine W_loopC (X := Nat) [(1, _), (2, _), (3, _), (6, _), (8, _), (9, _)] (fun (m : Nat) => [(10, .int .u64 (numL ((chunk b k).drop m))), (11, .int .i64 ((m : Int) - 1))]) (fun _ => _) (fun _ => _) (fun (m : Nat) => m ≤ 8) (fun (m : Nat) => m) 8 (by decide) (sub_cons rfl (sub_cons rfl (sub_cons rfl (sub_cons rfl (sub_cons rfl (sub_cons rfl (sub_nil _))))))) (sub_cons (by rw [List.drop_of_length_le (Nat.le_of_eq (chunk_len hbl (by omega)))]; rfl) (sub_cons rfl (sub_nil _))) rfl zH ?_
    intro m hm
    simp only [List.cons_append, List.nil_append]
    refine W_seq ?_
    refine W_sr ?_
    refine W_move rfl rfl ?_
    refine W_bin rfl rfl b_geq rfl ?_
    refine W_nil ?_
    refine W_condPS (p := 0 < m) rfl (by simp; omega) (fun c1 => ?_) (fun c1 => ?_)
    · skip
      refine W_skip ?_
      refine W_seq ?_
      refine W_block ?_
      refine W_region ?_
      obtain ⟨j, rfl⟩ : ∃ j, m = j + 1 := ⟨m - 1, by omega⟩
      have hn8 := numL_le (hB.chunk k |>.drop (j + 1)) (k := 7) (by rw [List.length_drop, chunk_len hbl (by omega)]; omega)
      obtain ⟨b0, o0, rfl, hcb⟩ := hrow.at (i := 8 * k + j) (v := .int .u8 (b.getD (8 * k + j) 0)) (byV_get (by omega))
      have hbb := hB.getD (8 * k + j)
      have hna : (numL ((chunk b k).drop j)) = b.getD (8 * k + j) 0 + 256 * (numL ((chunk b k).drop (j + 1))) := by rw [numL_at (by rw [chunk_len hbl (by omega)]; omega), chunk_get b k (by omega)]
      refine W_move rfl rfl ?_
      refine W_bin rfl rfl (b_mul (m := (numL ((chunk b k).drop (j + 1))) * 256) (u64_id (by omega))) rfl ?_
      refine W_move rfl rfl ?_
      refine W_move rfl rfl ?_
      refine W_bin rfl rfl (b_mul (m := 8 * (k : Int)) (i64w (by omega))) rfl ?_
      refine W_move rfl rfl ?_
      refine W_bin rfl rfl (b_add (m := ((8 * k + j : Nat) : Int)) ((i64w (by omega)).trans (by omega))) rfl ?_
      refine W_indexAddr (j := (8 * k + j)) rfl rfl ty57 ty5 (by first | rfl | omega) (by first | decide | omega | simp) rfl rfl ?_
      refine W_load rfl ty5 rfl (v := .int .u8 (b.getD (8 * k + j) 0)) (by rw [Nat.mul_one]; exact hcb.up zH) rfl ?_
      refine W_conv (m := b.getD (8 * k + j) 0) rfl ty5 ty28 (u64_id (by omega)) rfl ?_
      refine W_bin rfl rfl (b_add (m := (numL ((chunk b k).drop j))) ((u64_id (by omega)).trans (by omega))) rfl ?_
      refine W_assign rfl rfl ?_
      refine W_nil ?_
      refine W_blk ?_
      refine W_region ?_
      refine W_move rfl rfl ?_
      refine W_bin rfl rfl (b_sub (m := (j : Int) - 1) ((i64w (by omega)).trans (by omega))) rfl ?_
      refine W_assign rfl rfl ?_
      refine W_nil ?_
      refine W_again j (by omega) (by omega) (sub_cons rfl (sub_cons rfl (sub_cons rfl (sub_cons rfl (sub_cons rfl (sub_cons rfl (sub_cons rfl (sub_cons rfl (sub_nil _))))))))) rfl zH
    · skip
      refine W_exit rfl ?_
      refine W_region ?_
      obtain rfl : m = 0 := by omega
      refine W_move rfl rfl ?_
      refine W_bin rfl rfl (b_add (m := ((10 + an : Nat) : Int)) ((i64w (by omega)).trans (by omega))) rfl ?_
      refine W_move rfl rfl ?_
      refine W_bin rfl rfl (b_add (m := ((10 + an + k : Nat) : Int)) ((i64w (by omega)).trans (by omega))) rfl ?_
      refine W_move rfl rfl ?_
      refine W_callp (.cons rfl .nil) Tryd.call42 rfl (T := fun _ => True) trivial (rnum_pure _) ?_
      refine W_fieldAddr rfl fld62_0 (by decide) rfl ?_
      refine W_indexAddrA (j := (10 + an + k)) rfl rfl ty60 ty52 (by first | rfl | omega) (by first | decide | omega | simp) rfl rfl ?_
      rw [List.drop_zero]
      refine W_storeA rfl rfl ty52 rfl rfl (b := b3) zM (by rw [vaRow_len]; exact (by omega : 0 + 0 + (10 + an + k) * 5 + 5 ≤ (wrN V an b k).length * 5)) ((congrArg (fun z => spliceL (vaRow (wrN V an b k)) z (vaC ⟨false, 0, 0, 0, numL (chunk b k)⟩)) (Nat.zero_add ((10 + an + k) * 5))).trans (va_set ⟨false, 0, 0, 0, numL (chunk b k)⟩ (by omega))) zU ?_
      refine W_nil ?_
      refine W_blk ?_
      refine W_region ?_
      refine W_move rfl rfl ?_
      refine W_bin rfl rfl (b_add (m := ((k + 1 : Nat) : Int)) ((i64w (by omega)).trans (by omega))) rfl ?_
      refine W_assign rfl rfl ?_
      refine W_nil ?_
      refine W_again (k + 1) (by omega) (by omega) (sub_cons rfl (sub_cons rfl (sub_cons rfl (sub_cons rfl (sub_cons rfl (sub_cons rfl (sub_nil _))))))) rfl zH
  · skip
    refine W_exit rfl ?_
    refine W_sr ?_
    obtain rfl : k = nn := by omega
    refine W_loadB (vs := vaRow (wrN V an b k)) rfl ty62 rfl (b := b3) zM (by show Nat.ble _ (vaRow (wrN V an b k)).length = true; rw [vaRow_len, Nat.ble_eq]; omega) (by rw [List.drop_zero, List.take_of_length_le (by rw [vaRow_len]; omega)]) rfl ?_
    refine W_storeA (l' := vaRow (wrN V an b k)) rfl rfl ty62 (va_one _) (by show (vaRow (wrN V an b k)).length = 90; rw [vaRow_len]; omega) (b := b6) zM (by exact Nat.le_refl 90) (splice_all (by rw [vaRow_len, List.length_replicate, vaRow_len]; omega)) zU ?_
    refine W_assign rfl rfl ?_
    refine W_nil ?_
    refine W_ret2G (H2 := H) Tryd.results23 (.nil _) (.own rfl ty62 rfl zM (by rw [vaRow_len]; omega)) (.tmp rfl) zH ?_
    exact ⟨rfl, rfl⟩
set_option maxHeartbeats 1000000 in
theorem rwrite_bad {V : List Va} {a : Int} {n cap : Nat} {ad : Option Addr} (hV : V.length = 18) (ha : I64 a) (hn : n ≤ 4611686018427387904) (hb : n % 8 ≠ 0 ∨ badW a ((n / 8 : Nat) : Int)) : Pure Tryd.prog (fun _ => True) 23 [.agg (vaRow V).toArray, .int .i64 a, .slice ad n cap] (.tuple #[.agg (vaRow V).toArray, .int .i64 1]) := by
  intro w0 H hT
  unfold badW at hb
  refine L_enter Tryd.func23 rfl Tryd.ntmps23 rfl rfl ?_
  refine W_sr ?_
  refine W_box rfl rfl rfl (fun b3 => ?_)
  show W _ _ _ _ _ _ _ _ ((b3, .cells 62 (vaRow V).length (vaRow V)) :: H)
  rw [show (vaRow V).length = 90 by rw [vaRow_len, hV]]
  refine W_alloc (l := vaRow (List.replicate 18 zeroV)) ty62 rfl rfl (fun b6 => ?_)
  refine W_assign rfl rfl ?_
  refine W_nil ?_
  refine W_sr ?_
  refine W_move rfl rfl ?_
  refine W_len rfl ty57 rfl rfl ?_
  refine W_bin rfl rfl (b_quo (m := (((n / 8 : Nat) : Int) : Int)) (by decide) (quo8 (by omega) (by omega))) rfl ?_
  refine W_assign rfl rfl ?_
  refine W_nil ?_
  refine W_seq ?_
  refine W_sr ?_
  refine W_move rfl rfl ?_
  refine W_len rfl ty57 rfl rfl ?_
  refine W_bin rfl rfl (b_rem (by decide) rem8) rfl ?_
  refine W_bin rfl rfl b_neq rfl ?_
  refine W_move rfl rfl ?_
  apply W_or
  iterate 4 exact rfl
  case h1 =>
    intro hg4
    refine W_gyes rfl rfl ?_
    refine W_move rfl rfl ?_
    refine W_gyes rfl rfl ?_
    refine W_bin rfl rfl b_lss rfl ?_
    exact W_met rfl zR
  refine W_move rfl rfl ?_
  apply W_or
  iterate 4 exact rfl
  case h1 =>
    intro hg8
    refine W_gyes rfl rfl ?_
    refine W_move rfl rfl ?_
    refine W_gyes rfl rfl ?_
    refine W_bin rfl rfl b_gtr rfl ?_
    exact W_met rfl zR
  refine W_move rfl rfl ?_
  apply W_or
  iterate 4 exact rfl
  case h1 =>
    intro hg12
    have hg := hg12
    simp only [Bool.or_eq_false_iff, decide_eq_false_iff_not] at hg
    refine W_gyes rfl rfl ?_
    refine W_move rfl rfl ?_
    refine W_gyes rfl rfl ?_
    refine W_move rfl rfl ?_
    refine W_gyes rfl rfl ?_
    refine W_bin rfl rfl (b_sub (m := 8 - a) (i64w (by omega))) rfl ?_
    refine W_gyes rfl rfl ?_
    refine W_bin rfl rfl b_gtr rfl ?_
    exact W_met rfl zR
  refine W_nil ?_
  refine W_condT rfl (by simp; omega) ?_
  refine W_sr ?_
  refine W_loadB (vs := vaRow V) rfl ty62 rfl (b := b3) zM (by show Nat.ble _ (vaRow V).length = true; rw [vaRow_len, Nat.ble_eq]; omega) (by rw [List.drop_zero, List.take_of_length_le (by rw [vaRow_len]; omega)]) rfl ?_
  refine W_storeA (l' := vaRow V) rfl rfl ty62 (va_one _) (by show (vaRow V).length = 90; rw [vaRow_len]; omega) (b := b6) zM (by exact Nat.le_refl 90) (splice_all (by rw [vaRow_len, List.length_replicate, vaRow_len]; omega)) zU ?_
  refine W_assign rfl rfl ?_
  refine W_nil ?_
  refine W_ret2G (H2 := H) Tryd.results23 (.nil _) (.own rfl ty62 rfl zM (by rw [vaRow_len]; omega)) (.tmp rfl) zH ?_
  exact ⟨rfl, rfl⟩
end Go.Proofs.YtcmfldfeakmdoaaDoor
namespace Go.Proofs.YtcmfldfeakmdoaaDoor
open Go Go.Sl
attribute [local irreducible] W
open Go.Script (lowL numL Bytes lowL_len lowL_bytes numL_nonneg numL_lt low_num)
theorem wrN_wd {V : List Va} {an : Nat} {b : List Int} (hB : Bytes b) (hV : ∀ v ∈ V, Wd v.n) : ∀ k, ∀ v ∈ wrN V an b k, Wd v.n
  | 0 => hV
  | k + 1 => set_good (p := fun v => Wd v.n) (wrN_wd hB hV k) (by
      have := numL_le (hB.chunk k) (k := 8) (by unfold chunk; rw [List.length_take]; omega)
      exact ⟨this.1, by have h2 := this.2; simp only [Int.reducePow] at h2; show numL (chunk b k) ≤ _; omega⟩)
theorem rdB_len (V : List Va) (a n : Nat) : (rdB V a n).1.length ≤ V.length * 8 := by
  unfold rdB
  split
  · exact Nat.zero_le _
  · show (wordsB _).length ≤ _
    rw [wordsB_len, List.length_take, List.length_drop]; omega
end Go.Proofs.YtcmfldfeakmdoaaDoor
namespace Go.Proofs.YtcmfldfeakmdoaaDoor
open Go Go.Sl
attribute [local irreducible] W
structure Tr where
  kind : Int
  helper : Int
  off : Int
  a0 : Va
  a1 : Va
  a2 : Va
  a3 : Va
  a4 : Va
  ref : Va
  n : Int
deriving DecidableEq
def trZ : Tr := ⟨0, 0, 0, zeroV, zeroV, zeroV, zeroV, zeroV, zeroV, 0⟩
def trC (t : Tr) : List Value := [.int .i64 t.kind, .int .i64 t.helper, .int .i64 t.off, .bool t.a0.ref, .int .i64 t.a0.m, .int .i64 t.a0.slot, .int .i64 t.a0.gen, .int .u64 t.a0.n, .bool t.a1.ref, .int .i64 t.a1.m, .int .i64 t.a1.slot, .int .i64 t.a1.gen, .int .u64 t.a1.n, .bool t.a2.ref, .int .i64 t.a2.m, .int .i64 t.a2.slot, .int .i64 t.a2.gen, .int .u64 t.a2.n, .bool t.a3.ref, .int .i64 t.a3.m, .int .i64 t.a3.slot, .int .i64 t.a3.gen, .int .u64 t.a3.n, .bool t.a4.ref, .int .i64 t.a4.m, .int .i64 t.a4.slot, .int .i64 t.a4.gen, .int .u64 t.a4.n, .bool t.ref.ref, .int .i64 t.ref.m, .int .i64 t.ref.slot, .int .i64 t.ref.gen, .int .u64 t.ref.n, .int .u64 t.n]
structure Vs where
  V : List Va
  at_ : Int
  fuel : Int
  asks : Bool
  over : Bool
  opn : Tr
  why : Int
  res : Int
deriving DecidableEq
def runC (bf : Nat) (ad : Option Addr) (n cap : Nat) (r : Vs) : List Value :=
  .pointer (some ⟨bf, 0, none⟩) :: .slice ad n cap :: .int .i64 r.at_ :: .int .i64 r.fuel :: .bool r.asks :: .bool r.over :: (trC r.opn ++ [.int .i64 r.why, .int .u64 r.res])
def endF (r : Vs) (e : Int) : Vs := { r with over := true, asks := false, why := e, opn := trZ }
def nextF (r : Vs) (e : Int) : Vs := if e = 0 then { r with at_ := r.at_ + 1 } else endF r e
def askF (r : Vs) (t : Tr) : Vs := { r with opn := t, asks := true }
def jumpF (r : Vs) (x : Ins) : Vs := nextF (if (jumpV r.V x).1 then { r with at_ := r.at_ + x.off } else r) (jumpV r.V x).2
def valueF (r : Vs) (x : Ins) : Vs :=
  if x.op = 66 ∧ (rdV r.V false x.src).1.ref = true then askF r { trZ with kind := 3, ref := (rdV r.V false x.src).1, off := x.off }
  else if (x.op = 67 ∧ (rdV r.V false x.dst).1.ref = true) ∧ (rdV r.V false x.src).1.ref = false then askF r { trZ with kind := 4, ref := (rdV r.V false x.dst).1, off := x.off, n := (rdV r.V false x.src).1.n }
  else endF r 17
def argsT (V : List Va) : Tr := { trZ with a0 := V.getD 1 zeroV, a1 := V.getD 2 zeroV, a2 := V.getD 3 zeroV, a3 := V.getD 4 zeroV, a4 := V.getD 5 zeroV }
abbrev argsV (V : List Va) : List Va := [V.getD 1 zeroV, V.getD 2 zeroV, V.getD 3 zeroV, V.getD 4 zeroV, V.getD 5 zeroV]
theorem args_row {V : List Va} (hV : V.length = 18) : vaRow (argsV V) = ((vaRow V).drop 5).take 25 := by
  match V, hV with
  | [], h => simp at h
  | [_], h => simp at h
  | [_, _], h => simp at h
  | [_, _, _], h => simp at h
  | [_, _, _, _], h => simp at h
  | [_, _, _, _, _], h => simp at h
  | a :: b :: c :: d :: e :: f :: l, _ => rfl
theorem Holds.part {w0 : World} {H : Heap} {b e tot o : Nat} {l l' : List Value} (hm : (b, Blk.cells e tot l) ∈ H) (h : l' = (l.drop o).take l'.length) : Holds w0 H (some ⟨b, o, none⟩) l' := fun j x hx => by
  refine ⟨b, o, rfl, Cell.own hm ?_⟩
  have hj : j < l'.length := (List.getElem?_eq_some_iff.1 hx).1
  rw [h, List.getElem?_take_of_lt hj, List.getElem?_drop] at hx
  exact hx
set_option maxHeartbeats 1000000 in
theorem rend_L {w0 : World} {H : Heap} {br bf n cap : Nat} {ad : Option Addr} {r : Vs} {e : Int}  : LCalls Tryd.prog w0 41 #[.pointer (some ⟨br, 0, none⟩), .int .i64 e] ((br, .cells 86 42 (runC bf ad n cap r)) :: H) (fun _ H' => H' = (br, .cells 86 42 (runC bf ad n cap (endF r e))) :: H) := by
  refine L_enter (l := [.pointer (some ⟨br, 0, none⟩), .int .i64 e]) Tryd.func41 rfl Tryd.ntmps41 rfl rfl ?_
  refine W_region ?_
  refine W_move rfl rfl ?_
  refine W_move rfl rfl ?_
  refine W_move rfl rfl ?_
  refine W_move rfl rfl ?_
  refine W_move rfl rfl ?_
  refine W_build (l := trC trZ) ty44 pl44 .nil rfl rfl rfl ?_
  refine W_nilCheck rfl rfl ?_
  refine W_fieldAddr rfl fld86_5 (by decide) rfl ?_
  refine W_store (l' := runC bf ad n cap { r with over := true }) rfl rfl ty4 rfl rfl (b := br) zM rfl rfl zU ?_
  refine W_nilCheck rfl rfl ?_
  refine W_fieldAddr rfl fld86_4 (by decide) rfl ?_
  refine W_store (l' := runC bf ad n cap { r with over := true, asks := false }) rfl rfl ty4 rfl rfl (b := br) zM rfl rfl zU ?_
  refine W_nilCheck rfl rfl ?_
  refine W_fieldAddr rfl fld86_7 (by decide) rfl ?_
  refine W_store (l' := runC bf ad n cap { r with over := true, asks := false, why := e }) rfl rfl ty30 rfl rfl (b := br) zM rfl rfl zU ?_
  refine W_nilCheck rfl rfl ?_
  refine W_fieldAddr rfl fld86_6 (by decide) rfl ?_
  refine W_storeA (l' := runC bf ad n cap (endF r e)) rfl rfl ty44 rfl rfl (b := br) zM (Nat.le_of_ble_eq_true rfl) rfl zU ?_
  refine W_nil ?_
  refine W_end0m (H2 := (br, .cells 86 42 (runC bf ad n cap (endF r e))) :: H) Tryd.results41 (.nil _) zH ?_
  rfl
set_option maxHeartbeats 1000000 in
theorem rnext_L {w0 : World} {H : Heap} {br bf n cap : Nat} {ad : Option Addr} {r : Vs} {e : Int} (hat : -1 ≤ r.at_ ∧ r.at_ ≤ 1000000)  : LCalls Tryd.prog w0 40 #[.pointer (some ⟨br, 0, none⟩), .int .i64 e] ((br, .cells 86 42 (runC bf ad n cap r)) :: H) (fun _ H' => H' = (br, .cells 86 42 (runC bf ad n cap (nextF r e))) :: H) := by
  refine L_enter (l := [.pointer (some ⟨br, 0, none⟩), .int .i64 e]) Tryd.func40 rfl Tryd.ntmps40 rfl rfl ?_
  refine W_seq ?_
  refine W_sr ?_
  refine W_move rfl rfl ?_
  refine W_bin rfl rfl b_neq rfl ?_
  refine W_nil ?_
  refine W_condS rfl (fun c0 => ?_) (fun c0 => ?_)
  · simp only [cond_true, cond_false, Bool.and_eq_true, Bool.or_eq_true, Bool.and_eq_false_iff, Bool.or_eq_false_iff, decide_eq_true_eq, decide_eq_false_iff_not, Bool.not_eq_true', Bool.not_eq_false', ne_eq, Decidable.not_not] at c0
    refine W_sr ?_
    refine W_move rfl rfl ?_
    refine W_move rfl rfl ?_
    refine W_call (.cons rfl (.cons rfl .nil)) Tryd.call41 rfl ((rend_L (r := r) (e := e)).hsub zH) ?_
    rintro v H' rfl
    rw [show endF r e = nextF r e from (if_neg c0).symm]
    refine W_nil ?_
    refine W_ret0m (H2 := (br, .cells 86 42 (runC bf ad n cap (nextF r e))) :: H) Tryd.results40 (.nil _) zH ?_
    rfl
  · simp only [cond_true, cond_false, Bool.and_eq_true, Bool.or_eq_true, Bool.and_eq_false_iff, Bool.or_eq_false_iff, decide_eq_true_eq, decide_eq_false_iff_not, Bool.not_eq_true', Bool.not_eq_false', ne_eq, Decidable.not_not] at c0
    refine W_skip ?_
    refine W_region ?_
    refine W_move rfl rfl ?_
    refine W_nilCheck rfl rfl ?_
    refine W_fieldAddr rfl fld86_2 (by decide) rfl ?_
    refine W_load (v := .int .i64 r.at_) rfl ty3 rfl (Cell.own (b := br) zM rfl) rfl ?_
    refine W_bin rfl rfl (b_add (m := r.at_ + 1) (by rw [i64w (by omega)])) rfl ?_
    refine W_nilCheck rfl rfl ?_
    refine W_fieldAddr rfl fld86_2 (by decide) rfl ?_
    refine W_store (l' := runC bf ad n cap (nextF r e)) rfl rfl ty3 rfl rfl (b := br) zM rfl (by rw [show nextF r e = { r with at_ := r.at_ + 1 } from if_pos c0]; rfl) zU ?_
    refine W_nil ?_
    refine W_end0m (H2 := (br, .cells 86 42 (runC bf ad n cap (nextF r e))) :: H) Tryd.results40 (.nil _) zH ?_
    rfl
set_option maxHeartbeats 1000000 in
theorem rask_L {w0 : World} {H : Heap} {br bf n cap : Nat} {ad : Option Addr} {r : Vs} {t : Tr}  : LCalls Tryd.prog w0 58 #[.pointer (some ⟨br, 0, none⟩), .agg (trC t).toArray] ((br, .cells 86 42 (runC bf ad n cap r)) :: H) (fun _ H' => H' = (br, .cells 86 42 (runC bf ad n cap (askF r t))) :: H) := by
  refine L_enter (l := [.pointer (some ⟨br, 0, none⟩), .agg (trC t).toArray]) Tryd.func58 rfl Tryd.ntmps58 rfl rfl ?_
  refine W_sr ?_
  refine W_box rfl rfl rfl (fun b3 => ?_)
  refine W_nil ?_
  refine W_region ?_
  refine W_move rfl rfl ?_
  refine W_move rfl rfl ?_
  refine W_loadB (vs := trC t) rfl ty44 rfl zM rfl rfl rfl ?_
  refine W_nilCheck rfl rfl ?_
  refine W_fieldAddr rfl fld86_6 (by decide) rfl ?_
  refine W_storeA (l' := runC bf ad n cap { r with opn := t }) rfl rfl ty44 rfl rfl (b := br) zM (Nat.le_of_ble_eq_true rfl) rfl zU ?_
  refine W_nilCheck rfl rfl ?_
  refine W_fieldAddr rfl fld86_4 (by decide) rfl ?_
  refine W_store (l' := runC bf ad n cap (askF r t)) rfl rfl ty4 rfl rfl (b := br) zM rfl rfl zU ?_
  refine W_nil ?_
  refine W_end0m (H2 := (br, .cells 86 42 (runC bf ad n cap (askF r t))) :: H) Tryd.results58 (.nil _) zH ?_
  rfl
set_option maxHeartbeats 1000000 in
theorem args_L {w0 : World} {H : Heap} {bf : Nat} {V : List Va} (hV : V.length = 18)  : LCalls Tryd.prog w0 59 #[.pointer (some ⟨bf, 0, none⟩)] ((bf, .cells 101 90 (vaRow V)) :: H) (fun v H' => v = .agg (vaRow (argsV V)).toArray ∧ H' = (bf, .cells 101 90 (vaRow V)) :: H) := by
  refine L_enter (l := [.pointer (some ⟨bf, 0, none⟩)]) Tryd.func59 rfl Tryd.ntmps59 rfl rfl ?_
  refine W_sr ?_
  refine W_alloc (l := vaRow (List.replicate 5 zeroV)) ty42 rfl rfl (fun b2 => ?_)
  refine W_nil ?_
  refine W_seq ?_
  refine W_sr ?_
  refine W_move rfl rfl ?_
  refine W_x (X_ptrNil rfl rfl ty81) (fun _ h => by cases h) rfl ?_
  refine W_nil ?_
  refine W_condF rfl rfl ?_
  refine W_skip ?_
  refine W_sr ?_
  refine W_alloc (l := vaRow (List.replicate 5 zeroV)) ty42 rfl rfl (fun b3 => ?_)
  refine W_nil ?_
  refine W_seq ?_
  refine W_anyC ((bf, .cells 101 90 (vaRow V)) :: H) (by kernel_rfl) ?_
  refine WC_take 0 (l' := #[true, false, false, false, false, false]) rfl (by decide +kernel) (by decide +kernel) (by decide +kernel) rfl (by decide +kernel) (X_sliceArr (l := 0) (hh := 5) rfl ty42 ty41 rfl rfl (by decide) (by decide) (by decide)) rfl ?_
  refine WC_take 1 (l' := #[true, true, false, false, false, false]) rfl (by decide +kernel) (by decide +kernel) (by decide +kernel) rfl (by decide +kernel) (X_move rfl) rfl ?_
  refine WC_take 2 (l' := #[true, true, true, false, false, false]) rfl (by decide +kernel) (by decide +kernel) (by decide +kernel) rfl (by decide +kernel) (X_nilCheck rfl) rfl ?_
  refine WC_take 3 (l' := #[true, true, true, true, false, false]) rfl (by decide +kernel) (by decide +kernel) (by decide +kernel) rfl (by decide +kernel) (X_fieldAddr rfl fld101_0 (by decide)) rfl ?_
  refine WC_take 4 (l' := #[true, true, true, true, true, false]) rfl (by decide +kernel) (by decide +kernel) (by decide +kernel) rfl (by decide +kernel) (X_sliceArr (l := 1) (hh := 10) rfl ty98 ty41 ⟨_, rfl⟩ rfl (by decide) (by decide) (by decide)) rfl ?_
  refine WC_one 5 (l' := #[true, true, true, true, true, true]) zH (by decide +kernel) rfl (by decide +kernel) ?_
  refine W_copy (news := vaRow (argsV V)) (l' := vaRow (argsV V)) rfl rfl ty33 ty41 (kk := 5) rfl (by rw [vaRow_len]; rfl) (Holds.part (b := bf) zM (args_row hV)) (va_one _) (b := b3) zM (by exact Nat.le_refl 25) rfl zU rfl ?_
  refine W_nil ?_
  refine WC_goal ?_
  refine WC_done zH (by decide +kernel) ?_
  refine W_sr ?_
  refine W_loadB (vs := vaRow (argsV V)) rfl ty42 rfl (b := b3) zM rfl rfl rfl ?_
  refine W_storeA (l' := vaRow (argsV V)) rfl rfl ty42 rfl rfl (b := b2) zM (by exact Nat.le_refl 25) rfl zU ?_
  refine W_nil ?_
  refine W_ret1cO (H2 := (bf, .cells 101 90 (vaRow V)) :: H) Tryd.results59 rfl (.nil _) ty42 rfl zM rfl zH ?_
  exact ⟨rfl, rfl⟩
end Go.Proofs.YtcmfldfeakmdoaaDoor
namespace Go.Proofs.YtcmfldfeakmdoaaDoor
open Go Go.Sl
attribute [local irreducible] W
set_option maxHeartbeats 1000000 in
theorem rinner_L {w0 : World} {H : Heap} {br bf n cap : Nat} {ad : Option Addr} {r : Vs}   : LCalls Tryd.prog w0 43 #[.pointer (some ⟨br, 0, none⟩)] ((br, .cells 86 42 (runC bf ad n cap r)) :: H) (fun v H' => v = .pointer (some ⟨bf, 0, none⟩) ∧ H' = (br, .cells 86 42 (runC bf ad n cap r)) :: H) := by
  refine L_enter (l := [.pointer (some ⟨br, 0, none⟩)]) Tryd.func43 rfl Tryd.ntmps43 rfl rfl ?_
  refine W_sr ?_
  refine W_assign rfl rfl ?_
  refine W_nil ?_
  refine W_seq ?_
  refine W_sr ?_
  refine W_move rfl rfl ?_
  refine W_x (X_ptrNil rfl rfl ty29) (fun _ h => by cases h) rfl ?_
  refine W_nil ?_
  refine W_condF rfl rfl ?_
  refine W_skip ?_
  refine W_sr ?_
  refine W_move rfl rfl ?_
  refine W_nilCheck rfl rfl ?_
  refine W_fieldAddr rfl fld86_0 (by decide) rfl ?_
  refine W_load (v := .pointer (some ⟨bf, 0, none⟩)) rfl ty81 rfl (Cell.own (b := br) zM rfl) rfl ?_
  refine W_assign rfl rfl ?_
  refine W_nil ?_
  refine W_ret1m (H2 := (br, .cells 86 42 (runC bf ad n cap r)) :: H) Tryd.results43 rfl (.nil _) zH ?_
  exact ⟨rfl, rfl⟩
set_option maxHeartbeats 1000000 in
theorem RReg_L {w0 : World} {H : Heap} {br bf n cap : Nat} {ad : Option Addr} {r : Vs} {at_ : Int} (hV : r.V.length = 18)  : LCalls Tryd.prog w0 27 #[.pointer (some ⟨br, 0, none⟩), .int .i64 at_] ((br, .cells 86 42 (runC bf ad n cap r)) :: (bf, .cells 101 90 (vaRow (r).V)) :: H) (fun v H' => v = .tuple #[.agg (vaC (rdV r.V false at_).1).toArray, .int .i64 (rdV r.V false at_).2] ∧ H' = (br, .cells 86 42 (runC bf ad n cap r)) :: (bf, .cells 101 90 (vaRow (r).V)) :: H) := by
  refine L_enter (l := [.pointer (some ⟨br, 0, none⟩), .int .i64 at_]) Tryd.func27 rfl Tryd.ntmps27 rfl rfl ?_
  refine W_sr ?_
  refine W_alloc (l := vaC zeroV) ty41 rfl rfl (fun b4 => ?_)
  refine W_assign rfl rfl ?_
  refine W_nil ?_
  refine W_sr ?_
  refine W_move rfl rfl ?_
  refine W_call (.cons rfl .nil) Tryd.call43 rfl ((rinner_L (r := r) (H := (b4, .cells 41 5 (vaC zeroV)) :: (bf, .cells 101 90 (vaRow r.V)) :: H)).hsub zH) ?_
  rintro v H' ⟨rfl, rfl⟩
  refine W_move rfl rfl ?_
  refine W_call (.cons rfl (.cons rfl .nil)) Tryd.call46 rfl ((Reg_L (H := (b4, .cells 41 5 (vaC zeroV)) :: (br, .cells 86 42 (runC bf ad n cap r)) :: H) (V := r.V) (at_ := at_) hV).hsub zH) ?_
  rintro v H' ⟨rfl, rfl⟩
  refine W_extract rfl rfl rfl ?_
  refine W_extract rfl rfl rfl ?_
  refine W_storeA rfl rfl ty41 rfl rfl (b := b4) zM (by decide) rfl zU ?_
  refine W_assign rfl rfl ?_
  refine W_nil ?_
  refine W_ret2G (H2 := (br, .cells 86 42 (runC bf ad n cap r)) :: (bf, .cells 101 90 (vaRow (r).V)) :: H) Tryd.results27 (.nil _) (.own rfl ty41 rfl zM rfl) (.tmp rfl) zH ?_
  exact ⟨rfl, rfl⟩
theorem jumpF_V (r : Vs) (x : Ins) : (jumpF r x).V = r.V := by
  unfold jumpF nextF endF; repeat' split
  all_goals rfl
set_option maxHeartbeats 1000000 in
theorem rjump_L {w0 : World} {H : Heap} {br bf n cap : Nat} {ad : Option Addr} {r : Vs} {x : Ins} (hV : r.V.length = 18) (hop : -9223372036854775808 ≤ x.op ∧ x.op ≤ 9223372036854775807) (hW : ∀ v ∈ r.V, 0 ≤ v.n) (hat : 0 ≤ r.at_ ∧ r.at_ ≤ 1000000) (hto : -1 ≤ r.at_ + x.off ∧ r.at_ + x.off ≤ 1000000) (hT : Tab w0) : LCalls Tryd.prog w0 61 #[.pointer (some ⟨br, 0, none⟩), .agg #[.int .i64 x.op, .int .i64 x.dst, .int .i64 x.src, .int .i64 x.off, .int .i64 x.imm]] ((br, .cells 86 42 (runC bf ad n cap r)) :: (bf, .cells 101 90 (vaRow (r).V)) :: H) (fun _ H' => H' = (br, .cells 86 42 (runC bf ad n cap (jumpF r x))) :: (bf, .cells 101 90 (vaRow r.V)) :: H) := by
  refine L_enter (l := [.pointer (some ⟨br, 0, none⟩), .agg #[.int .i64 x.op, .int .i64 x.dst, .int .i64 x.src, .int .i64 x.off, .int .i64 x.imm]]) Tryd.func61 rfl Tryd.ntmps61 rfl rfl ?_
  refine W_sr ?_
  refine W_box rfl rfl rfl (fun b3 => ?_)
  refine W_nil ?_
  refine W_seq ?_
  refine W_anyC ((b3, .cells 59 5 [.int .i64 x.op, .int .i64 x.dst, .int .i64 x.src, .int .i64 x.off, .int .i64 x.imm]) :: (br, .cells 86 42 (runC bf ad n cap r)) :: (bf, .cells 101 90 (vaRow (r).V)) :: H) (by kernel_rfl) ?_
  refine WC_take 0 (l' := #[true, false, false, false, false, false, false, false, false, false, false]) rfl (by decide +kernel) (by decide +kernel) (by decide +kernel) rfl (by decide +kernel) (X_move rfl) rfl ?_
  refine WC_take 1 (l' := #[true, true, false, false, false, false, false, false, false, false, false]) rfl (by decide +kernel) (by decide +kernel) (by decide +kernel) rfl (by decide +kernel) (X_nilCheck rfl) rfl ?_
  refine WC_take 2 (l' := #[true, true, true, false, false, false, false, false, false, false, false]) rfl (by decide +kernel) (by decide +kernel) (by decide +kernel) rfl (by decide +kernel) (X_fieldAddr rfl fld86_0 (by decide)) rfl ?_
  refine WC_take 3 (l' := #[true, true, true, true, false, false, false, false, false, false, false]) rfl (by decide +kernel) (by decide +kernel) (by decide +kernel) rfl (by decide +kernel) (X_load (v := .pointer (some ⟨bf, 0, none⟩)) rfl ty81 rfl (Cell.own (b := br) zM rfl)) rfl ?_
  refine WC_take 4 (l' := #[true, true, true, true, true, false, false, false, false, false, false]) rfl (by decide +kernel) (by decide +kernel) (by decide +kernel) rfl (by decide +kernel) (X_loadB (vs := [.int .i64 x.op, .int .i64 x.dst, .int .i64 x.src, .int .i64 x.off, .int .i64 x.imm]) rfl ty59 rfl (b := b3) zM rfl rfl) rfl ?_
  refine WC_one 5 (l' := #[true, true, true, true, true, true, false, false, false, false, false]) zH (by decide +kernel) rfl (by decide +kernel) ?_
  refine W_call (.cons rfl (.cons rfl .nil)) Tryd.call71 rfl ((Jumps_L (H := (b3, .cells 59 5 [.int .i64 x.op, .int .i64 x.dst, .int .i64 x.src, .int .i64 x.off, .int .i64 x.imm]) :: (br, .cells 86 42 (runC bf ad n cap r)) :: H) (V := r.V) hV hop hW hT).hsub zH) ?_
  rintro v H' ⟨rfl, rfl⟩
  refine W_nil ?_
  refine WC_goal ?_
  refine WC_take 6 (l' := #[true, true, true, true, true, true, true, false, false, false, false]) rfl (by decide +kernel) (by decide +kernel) (by decide +kernel) rfl (by decide +kernel) (X_move rfl) rfl ?_
  refine WC_take 7 (l' := #[true, true, true, true, true, true, true, true, false, false, false]) rfl (by decide +kernel) (by decide +kernel) (by decide +kernel) rfl (by decide +kernel) (X_extract rfl rfl) rfl ?_
  refine WC_take 8 (l' := #[true, true, true, true, true, true, true, true, true, false, false]) rfl (by decide +kernel) (by decide +kernel) (by decide +kernel) rfl (by decide +kernel) (X_extract rfl rfl) rfl ?_
  refine WC_take 9 (l' := #[true, true, true, true, true, true, true, true, true, true, false]) rfl (by decide +kernel) (by decide +kernel) (by decide +kernel) rfl (by decide +kernel) (X_assign rfl) rfl ?_
  refine WC_take 10 (l' := #[true, true, true, true, true, true, true, true, true, true, true]) rfl (by decide +kernel) (by decide +kernel) (by decide +kernel) rfl (by decide +kernel) (X_assign rfl) rfl ?_
  refine WC_done zH (by decide +kernel) ?_
  refine W_seq ?_
  refine W_sr ?_
  refine W_move rfl rfl ?_
  refine W_nil ?_
  refine W_condJ (p := (jumpV r.V x).1 = true) [(0, .pointer (some ⟨br, 0, none⟩)), (5, .int .i64 (jumpV r.V x).2)] ((br, .cells 86 42 (runC bf ad n cap (if (jumpV r.V x).1 then { r with at_ := r.at_ + x.off } else r))) :: (bf, .cells 101 90 (vaRow r.V)) :: H) rfl (by simp) (fun c0 => ?_) (fun c0 => ?_) ?_
  · skip
    refine W_anyS ((b3, .cells 59 5 [.int .i64 x.op, .int .i64 x.dst, .int .i64 x.src, .int .i64 x.off, .int .i64 x.imm]) :: (br, .cells 86 42 (runC bf ad n cap r)) :: (bf, .cells 101 90 (vaRow (r).V)) :: H) 9 (by kernel_rfl) ?_
    refine WS_take 0 (l' := #[true, false, false, false, false, false, false, false, false, false]) rfl rfl (by decide +kernel) (by decide +kernel) (by decide +kernel) (by decide +kernel) rfl (by decide +kernel) (X_move rfl) rfl ?_
    refine WS_take 1 (l' := #[true, true, false, false, false, false, false, false, false, false]) rfl rfl (by decide +kernel) (by decide +kernel) (by decide +kernel) (by decide +kernel) rfl (by decide +kernel) (X_nilCheck rfl) rfl ?_
    refine WS_take 2 (l' := #[true, true, true, false, false, false, false, false, false, false]) rfl rfl (by decide +kernel) (by decide +kernel) (by decide +kernel) (by decide +kernel) rfl (by decide +kernel) (X_fieldAddr rfl fld86_2 (by decide)) rfl ?_
    refine WS_take 3 (l' := #[true, true, true, true, false, false, false, false, false, false]) rfl rfl (by decide +kernel) (by decide +kernel) (by decide +kernel) (by decide +kernel) rfl (by decide +kernel) (X_load (v := .int .i64 r.at_) rfl ty3 rfl (Cell.own (b := br) zM rfl)) rfl ?_
    refine WS_take 4 (l' := #[true, true, true, true, true, false, false, false, false, false]) rfl rfl (by decide +kernel) (by decide +kernel) (by decide +kernel) (by decide +kernel) rfl (by decide +kernel) (X_fieldAddr rfl fld59_3 (by decide)) rfl ?_
    refine WS_take 5 (l' := #[true, true, true, true, true, true, false, false, false, false]) rfl rfl (by decide +kernel) (by decide +kernel) (by decide +kernel) (by decide +kernel) rfl (by decide +kernel) (X_load (v := .int .i64 x.off) rfl ty3 rfl (Cell.own (b := b3) zM rfl)) rfl ?_
    refine WS_take 6 (l' := #[true, true, true, true, true, true, true, false, false, false]) rfl rfl (by decide +kernel) (by decide +kernel) (by decide +kernel) (by decide +kernel) rfl (by decide +kernel) (X_bin rfl rfl (b_add (m := r.at_ + x.off) (by rw [i64w (by omega)]))) rfl ?_
    refine WS_takeP 7 (l' := #[true, true, true, true, true, true, true, true, false, false]) rfl rfl (by decide +kernel) (by decide +kernel) (by decide +kernel) rfl (by decide +kernel) (X_nilCheck rfl) rfl ?_
    refine WS_take 8 (l' := #[true, true, true, true, true, true, true, true, true, false]) rfl rfl (by decide +kernel) (by decide +kernel) (by decide +kernel) (by decide +kernel) rfl (by decide +kernel) (X_fieldAddr rfl fld86_2 (by decide)) rfl ?_
    refine WS_last (l' := #[true, true, true, true, true, true, true, true, true, true]) zH (by decide +kernel) rfl (by decide +kernel) ?_
    refine W_store (l' := runC bf ad n cap (if (jumpV r.V x).1 then { r with at_ := r.at_ + x.off } else r)) rfl rfl ty3 rfl rfl (b := br) zM rfl (by rw [if_pos c0]; rfl) zU ?_
    refine W_nil ?_
    refine WC_goal ?_
    refine WC_done (.nil _) (by decide +kernel) ?_
    refine W_joined (sub_cons rfl (sub_cons rfl (sub_nil _))) zH
  · skip
    refine W_skip ?_
    refine W_joined (sub_cons rfl (sub_cons rfl (sub_nil _))) (by rw [if_neg c0]; exact hsubI)
  skip
  refine W_region ?_
  refine W_move rfl rfl ?_
  refine W_move rfl rfl ?_
  refine W_call (.cons rfl (.cons rfl .nil)) Tryd.call40 rfl ((rnext_L (H := (bf, .cells 101 90 (vaRow r.V)) :: H) (r := (if (jumpV r.V x).1 then { r with at_ := r.at_ + x.off } else r)) (e := (jumpV r.V x).2) (by split <;> (try dsimp only) <;> omega)).hsub zH) ?_
  rintro v H' rfl
  refine W_nil ?_
  refine W_end0m (H2 := (br, .cells 86 42 (runC bf ad n cap (jumpF r x))) :: (bf, .cells 101 90 (vaRow r.V)) :: H) Tryd.results61 (.nil _) zH ?_
  rfl
set_option maxHeartbeats 1000000 in
theorem rvalue_L {w0 : World} {H : Heap} {br bf n cap : Nat} {ad : Option Addr} {r : Vs} {x : Ins} (hV : r.V.length = 18)  : LCalls Tryd.prog w0 60 #[.pointer (some ⟨br, 0, none⟩), .agg #[.int .i64 x.op, .int .i64 x.dst, .int .i64 x.src, .int .i64 x.off, .int .i64 x.imm]] ((br, .cells 86 42 (runC bf ad n cap r)) :: (bf, .cells 101 90 (vaRow (r).V)) :: H) (fun _ H' => H' = (br, .cells 86 42 (runC bf ad n cap (valueF r x))) :: (bf, .cells 101 90 (vaRow r.V)) :: H) := by
  refine L_enter (l := [.pointer (some ⟨br, 0, none⟩), .agg #[.int .i64 x.op, .int .i64 x.dst, .int .i64 x.src, .int .i64 x.off, .int .i64 x.imm]]) Tryd.func60 rfl Tryd.ntmps60 rfl rfl ?_
  refine W_sr ?_
  refine W_box rfl rfl rfl (fun b3 => ?_)
  refine W_nil ?_
  refine W_sr ?_
  refine W_move rfl rfl ?_
  refine W_fieldAddr rfl fld59_1 (by decide) rfl ?_
  refine W_load rfl ty3 rfl (Cell.own zM rfl) rfl ?_
  refine W_call (.cons rfl (.cons rfl .nil)) Tryd.call27 rfl ((RReg_L (H := (b3, .cells 59 5 [.int .i64 x.op, .int .i64 x.dst, .int .i64 x.src, .int .i64 x.off, .int .i64 x.imm]) :: H) (r := r) (at_ := x.dst) hV).hsub zH) ?_
  rintro v H' ⟨rfl, rfl⟩
  refine W_move rfl rfl ?_
  refine W_extract rfl rfl rfl ?_
  refine W_extract rfl rfl rfl ?_
  refine W_alloc (l := vaC zeroV) ty41 rfl rfl (fun b4 => ?_)
  refine W_storeA rfl rfl ty41 rfl rfl (b := b4) zM (by decide) rfl zU ?_
  refine W_assign rfl rfl ?_
  refine W_nil ?_
  refine W_sr ?_
  refine W_move rfl rfl ?_
  refine W_fieldAddr rfl fld59_2 (by decide) rfl ?_
  refine W_load rfl ty3 rfl (Cell.own zM rfl) rfl ?_
  refine W_call (.cons rfl (.cons rfl .nil)) Tryd.call27 rfl ((RReg_L (H := (b4, .cells 41 5 (vaC (rdV r.V false x.dst).1)) :: (b3, .cells 59 5 [.int .i64 x.op, .int .i64 x.dst, .int .i64 x.src, .int .i64 x.off, .int .i64 x.imm]) :: H) (r := r) (at_ := x.src) hV).hsub zH) ?_
  rintro v H' ⟨rfl, rfl⟩
  refine W_move rfl rfl ?_
  refine W_extract rfl rfl rfl ?_
  refine W_extract rfl rfl rfl ?_
  refine W_alloc (l := vaC zeroV) ty41 rfl rfl (fun b6 => ?_)
  refine W_storeA rfl rfl ty41 rfl rfl (b := b6) zM (by decide) rfl zU ?_
  refine W_assign rfl rfl ?_
  refine W_nil ?_
  refine W_block ?_
  refine W_sr ?_
  refine W_fieldAddr rfl fld59_0 (by decide) rfl ?_
  refine W_load rfl ty3 rfl (Cell.own zM rfl) rfl ?_
  refine W_bin rfl rfl b_eql rfl ?_
  refine W_move rfl rfl ?_
  apply W_and
  iterate 4 exact rfl
  case h1 =>
    intro hg3
    refine W_gyes rfl rfl ?_
    refine W_fieldAddr rfl fld41_0 (by decide) rfl ?_
    refine W_gyes rfl rfl ?_
    refine W_load rfl ty4 rfl (Cell.own zM rfl) rfl ?_
    exact W_met rfl zR
  refine W_assign rfl rfl ?_
  refine W_nil ?_
  refine W_condPS (p := x.op = 66 ∧ (rdV r.V false x.src).1.ref = true) rfl (by simp) (fun c0 => ?_) (fun c0 => ?_)
  · skip
    refine W_region ?_
    refine W_move rfl rfl ?_
    refine W_loadB (vs := vaC (rdV r.V false x.src).1) rfl ty41 rfl (b := b6) zM rfl rfl rfl ?_
    refine W_fieldAddr rfl fld59_3 (by decide) rfl ?_
    refine W_load rfl ty3 rfl (Cell.own zM rfl) rfl ?_
    refine W_build (l := trC { trZ with kind := 3, ref := (rdV r.V false x.src).1, off := x.off }) ty44 pl44 (.cons rfl rfl rfl rfl rfl (.cons rfl rfl rfl rfl rfl (.cons rfl rfl rfl rfl rfl .nil))) rfl rfl rfl ?_
    refine W_call (.cons rfl (.cons rfl .nil)) Tryd.call58 rfl ((rask_L (H := (bf, .cells 101 90 (vaRow r.V)) :: H) (r := r) (t := { trZ with kind := 3, ref := (rdV r.V false x.src).1, off := x.off })).hsub zH) ?_
    rintro v H' rfl
    refine W_nil ?_
    refine W_blk ?_
    refine W_end0m (H2 := (br, .cells 86 42 (runC bf ad n cap (askF r { trZ with kind := 3, ref := (rdV r.V false x.src).1, off := x.off }))) :: (bf, .cells 101 90 (vaRow r.V)) :: H) Tryd.results60 (.nil _) zH ?_
    unfold valueF
    rw [if_pos c0]
  · skip
    refine W_sr ?_
    refine W_fieldAddr rfl fld59_0 (by decide) rfl ?_
    refine W_load rfl ty3 rfl (Cell.own zM rfl) rfl ?_
    refine W_bin rfl rfl b_eql rfl ?_
    refine W_move rfl rfl ?_
    apply W_and
    iterate 4 exact rfl
    case h1 =>
      intro hg3
      refine W_gyes rfl rfl ?_
      refine W_fieldAddr rfl fld41_0 (by decide) rfl ?_
      refine W_gyes rfl rfl ?_
      refine W_load rfl ty4 rfl (Cell.own zM rfl) rfl ?_
      exact W_met rfl zR
    refine W_move rfl rfl ?_
    apply W_and
    iterate 4 exact rfl
    case h1 =>
      intro hg7
      refine W_gyes rfl rfl ?_
      refine W_fieldAddr rfl fld41_0 (by decide) rfl ?_
      refine W_gyes rfl rfl ?_
      refine W_load rfl ty4 rfl (Cell.own zM rfl) rfl ?_
      refine W_gyes rfl rfl ?_
      refine W_not rfl rfl ?_
      exact W_met rfl zR
    refine W_assign rfl rfl ?_
    refine W_nil ?_
    refine W_condPS (p := (x.op = 67 ∧ (rdV r.V false x.dst).1.ref = true) ∧ (rdV r.V false x.src).1.ref = false) rfl (by simp) (fun c1 => ?_) (fun c1 => ?_)
    · skip
      refine W_region ?_
      refine W_move rfl rfl ?_
      refine W_loadB (vs := vaC (rdV r.V false x.dst).1) rfl ty41 rfl (b := b4) zM rfl rfl rfl ?_
      refine W_fieldAddr rfl fld59_3 (by decide) rfl ?_
      refine W_load rfl ty3 rfl (Cell.own zM rfl) rfl ?_
      refine W_fieldAddr rfl fld41_3 (by decide) rfl ?_
      refine W_load rfl ty28 rfl (Cell.own zM rfl) rfl ?_
      refine W_build (l := trC { trZ with kind := 4, ref := (rdV r.V false x.dst).1, off := x.off, n := (rdV r.V false x.src).1.n }) ty44 pl44 (.cons rfl rfl rfl rfl rfl (.cons rfl rfl rfl rfl rfl (.cons rfl rfl rfl rfl rfl (.cons rfl rfl rfl rfl rfl .nil)))) rfl rfl rfl ?_
      refine W_call (.cons rfl (.cons rfl .nil)) Tryd.call58 rfl ((rask_L (H := (bf, .cells 101 90 (vaRow r.V)) :: H) (r := r) (t := { trZ with kind := 4, ref := (rdV r.V false x.dst).1, off := x.off, n := (rdV r.V false x.src).1.n })).hsub zH) ?_
      rintro v H' rfl
      refine W_nil ?_
      refine W_blk ?_
      refine W_end0m (H2 := (br, .cells 86 42 (runC bf ad n cap (askF r { trZ with kind := 4, ref := (rdV r.V false x.dst).1, off := x.off, n := (rdV r.V false x.src).1.n }))) :: (bf, .cells 101 90 (vaRow r.V)) :: H) Tryd.results60 (.nil _) zH ?_
      unfold valueF
      rw [if_neg c0, if_pos c1]
    · skip
      refine W_region ?_
      refine W_move rfl rfl ?_
      refine W_call (.cons rfl (.cons rfl .nil)) Tryd.call41 rfl ((rend_L (H := (bf, .cells 101 90 (vaRow r.V)) :: H) (r := r) (e := 17)).hsub zH) ?_
      rintro v H' rfl
      refine W_nil ?_
      refine W_blk ?_
      refine W_end0m (H2 := (br, .cells 86 42 (runC bf ad n cap (endF r 17))) :: (bf, .cells 101 90 (vaRow r.V)) :: H) Tryd.results60 (.nil _) zH ?_
      unfold valueF
      rw [if_neg c0, if_neg c1]
end Go.Proofs.YtcmfldfeakmdoaaDoor
namespace Go.Proofs.YtcmfldfeakmdoaaDoor
open Go Go.Sl
attribute [local irreducible] W
theorem u64w {m : Int} (h : 0 ≤ m ∧ m ≤ 18446744073709551615) : IntKind.u64.wrap m = m := IntWalk.u64_in m h
theorem bitsOf_nat (op : BinOp) (x y : Nat) (z : Nat) (hz : z < 2 ^ 64) (h : (match op with
        | Go.BinOp.and => BitVec.ofNat 64 x &&& BitVec.ofNat 64 y
        | Go.BinOp.or => BitVec.ofNat 64 x ||| BitVec.ofNat 64 y
        | Go.BinOp.xor => BitVec.ofNat 64 x ^^^ BitVec.ofNat 64 y
        | _ => BitVec.ofNat 64 x &&& ~~~(BitVec.ofNat 64 y)).toNat = z) : bitsOf op .u64 x y = (z : Int) := by
  have e : bitsOf op .u64 x y = IntKind.u64.wrap (z : Int) := by
    unfold bitsOf
    rw [show IntKind.u64.bits = 64 from rfl]
    rw [BitVec.ofInt_natCast, BitVec.ofInt_natCast]
    exact congrArg (fun n : Nat => IntKind.u64.wrap (n : Int)) h
  rw [e]
  exact u64w ⟨by omega, by omega⟩
theorem iw (m : Int) : IntKind.i64.wrap m = (m + 9223372036854775808) % 18446744073709551616 - 9223372036854775808 := by
  simp [IntKind.wrap, IntKind.signed, IntKind.bits]
  have := Int.emod_lt_of_pos m (show (0:Int) < 18446744073709551616 by decide)
  have := Int.emod_nonneg m (show (18446744073709551616 : Int) ≠ 0 by decide)
  omega
end Go.Proofs.YtcmfldfeakmdoaaDoor
namespace Go.Proofs.YtcmfldfeakmdoaaDoor
open Go Go.Sl
attribute [local irreducible] W
def bitN (i : Int) : Nat := if 0 ≤ i ∧ i < 64 then 2 ^ i.toNat else 0
def goodB (i : Int) : Bool := decide (0 ≤ i) && decide (i < 64)
theorem pow64 {i : Nat} (h : i < 64) : 2 ^ i ≤ 9223372036854775808 := by
  have : 2 ^ i ≤ 2 ^ 63 := Nat.pow_le_pow_right (by omega) (by omega)
  simpa using this
theorem shl_one {i : Int} (hi : 0 ≤ i ∧ i < 64) : IntKind.u64.wrap (1 * 2 ^ (min i.toNat IntKind.u64.bits)) = ((2 ^ i.toNat : Nat) : Int) := by
  have h := pow64 (i := i.toNat) (by omega)
  have e : min i.toNat IntKind.u64.bits = i.toNat := by
    have : IntKind.u64.bits = 64 := rfl
    omega
  have e2 : (2 : Int) ^ i.toNat = ((2 ^ i.toNat : Nat) : Int) := (Int.natCast_pow 2 _).symm
  rw [Int.one_mul, e, e2]
  generalize 2 ^ i.toNat = k at *
  exact u64w ⟨by omega, by omega⟩
theorem bitN_lt (i : Int) : bitN i < 18446744073709551616 := by
  unfold bitN; split
  · have := pow64 (i := i.toNat) (by omega); omega
  · omega
def MaskOk (m : Nat) : Prop := m < 18446744073709551616
def hasN (m : Nat) (i : Int) : Bool := goodB i && m.testBit i.toNat
theorem and_pow_ne (m k : Nat) : (m &&& 2 ^ k ≠ 0) ↔ m.testBit k = true := by
  constructor
  · intro h
    obtain ⟨i, hi⟩ := Nat.exists_testBit_of_ne_zero h
    rw [Nat.testBit_and, Nat.testBit_two_pow] at hi
    simp at hi
    rw [hi.2]; exact hi.1
  · intro h e
    have : (m &&& 2 ^ k).testBit k = true := by rw [Nat.testBit_and, Nat.testBit_two_pow, h]; simp
    rw [e] at this
    simp at this
theorem and_has {m : Nat} (hm : MaskOk m) (i : Int) : decide (bitsOf .and .u64 (m : Int) (bitN i : Int) ≠ 0) = hasN m i := by
  have e : bitsOf .and .u64 (m : Int) (bitN i : Int) = ((m &&& bitN i : Nat) : Int) := by
    refine bitsOf_nat .and m (bitN i) _ (Nat.lt_of_le_of_lt Nat.and_le_left hm) ?_
    simp only [BitVec.toNat_and, BitVec.toNat_ofNat]
    rw [Nat.mod_eq_of_lt (show m < 2 ^ 64 from hm), Nat.mod_eq_of_lt (show bitN i < 2 ^ 64 from bitN_lt i)]
  rw [e]
  unfold hasN goodB bitN
  by_cases h : 0 ≤ i ∧ i < 64
  · rw [if_pos h, decide_eq_true h.1, decide_eq_true h.2]
    have h2 := and_pow_ne m i.toNat
    cases hb : m.testBit i.toNat
    · rw [hb] at h2; simp at h2; simp [h2]
    · rw [hb] at h2; simp at h2; simp; omega
  · rw [if_neg h]
    have : (decide (0 ≤ i) && decide (i < 64)) = false := by simpa using h
    rw [this]
    simp
theorem or_mask {m : Nat} (hm : MaskOk m) (i : Int) : bitsOf .or .u64 (m : Int) (bitN i : Int) = ((m ||| bitN i : Nat) : Int) := by
  refine bitsOf_nat .or m (bitN i) _ (Nat.or_lt_two_pow (n := 64) hm (bitN_lt i)) ?_
  simp only [BitVec.toNat_or, BitVec.toNat_ofNat]
  rw [Nat.mod_eq_of_lt (show m < 2 ^ 64 from hm), Nat.mod_eq_of_lt (show bitN i < 2 ^ 64 from bitN_lt i)]
theorem or_ok {m : Nat} (hm : MaskOk m) (i : Int) : MaskOk (m ||| bitN i) := Nat.or_lt_two_pow (n := 64) hm (bitN_lt i)
def withL (m : Nat) (l : List Int) : Nat := l.foldl (fun m i => m ||| bitN i) m
theorem withL_ok : ∀ (l : List Int) {m : Nat}, MaskOk m → MaskOk (withL m l)
  | [], _, h => h
  | i :: l, _, h => withL_ok l (or_ok h i)
def fullN (n : Int) : Nat := if n < 1 then 0 else if 64 ≤ n then 18446744073709551615 else 2 ^ n.toNat - 1
def i64s (l : List Int) : List Value := l.map fun x => .int .i64 x
theorem i64s_at {l : List Int} {i : Nat} {x : Int} (h : l[i]? = some x) : (i64s l)[i]? = some (.int .i64 x) := by simp [i64s, h]
theorem takeAt {α : Type} {l : List α} {i : Nat} {x : α} (h : l[i]? = some x) : l.take (i + 1) = l.take i ++ [x] := by
  rw [List.take_add_one, h]; rfl
theorem foldl_at {β : Type} {f : β → Int → β} {b : β} {l : List Int} {i : Nat} {x : Int} (h : l[i]? = some x) : (l.take (i + 1)).foldl f b = f ((l.take i).foldl f b) x := by
  rw [takeAt h, List.foldl_append]; rfl
set_option maxHeartbeats 1000000 in
theorem good_pure (i : Int) : Pure Tryd.prog (Tab) 69 [.int .i64 i] (.bool (goodB i)) := by
  intro w0 H hT
  refine L_enter Tryd.func69 rfl Tryd.ntmps69 rfl rfl ?_
  refine W_sr ?_
  refine W_assign rfl rfl ?_
  refine W_nil ?_
  refine W_sr ?_
  refine W_move rfl rfl ?_
  refine W_bin rfl rfl b_geq rfl ?_
  refine W_move rfl rfl ?_
  apply W_and
  iterate 4 exact rfl
  case h1 =>
    intro hg2
    refine W_gyes rfl rfl ?_
    refine W_move rfl rfl ?_
    refine W_gyes rfl rfl ?_
    refine W_bin rfl rfl b_lss rfl ?_
    exact W_met rfl zR
  refine W_assign rfl rfl ?_
  refine W_nil ?_
  refine W_ret1m Tryd.results69 rfl (.nil _) (.refl _) ?_
  exact ⟨rfl, rfl⟩
set_option maxHeartbeats 1000000 in
theorem bit_pure (i : Int) : Pure Tryd.prog (Tab) 54 [.int .i64 i] (.int .u64 (bitN i : Nat)) := by
  intro w0 H hT
  refine L_enter Tryd.func54 rfl Tryd.ntmps54 rfl rfl ?_
  refine W_sr ?_
  refine W_assign rfl rfl ?_
  refine W_nil ?_
  refine W_seq ?_
  refine W_sr ?_
  refine W_move rfl rfl ?_
  refine W_callp (.cons rfl .nil) Tryd.call69 rfl hT (good_pure _) ?_
  refine W_not rfl rfl ?_
  refine W_nil ?_
  refine W_condS rfl (fun c0 => ?_) (fun c0 => ?_)
  · skip
    refine W_sr ?_
    refine W_assign rfl rfl ?_
    refine W_nil ?_
    refine W_ret1m Tryd.results54 rfl (.nil _) (.refl _) ?_
    exact ⟨by unfold bitN; rw [if_neg (by intro h; have : goodB i = true := (by unfold goodB; simp [h.1, h.2]); simp [this] at c0)]; rfl, rfl⟩
  · skip
    refine W_skip ?_
    refine W_sr ?_
    refine W_move rfl rfl ?_
    have hi : 0 ≤ i ∧ i < 64 := by
      have : goodB i = true := by cases h : goodB i <;> simp_all
      unfold goodB at this
      simpa using this
    refine W_conv rfl ty3 ty126 (u64w (by omega)) rfl ?_
    refine W_bin rfl rfl (b_shl (by omega) (shl_one hi)) rfl ?_
    refine W_assign rfl rfl ?_
    refine W_nil ?_
    refine W_ret1m Tryd.results54 rfl (.nil _) (.refl _) ?_
    exact ⟨by unfold bitN; rw [if_pos hi], rfl⟩
set_option maxHeartbeats 1000000 in
theorem full_pure (n : Int) : Pure Tryd.prog (Tab) 55 [.int .i64 n] (.int .u64 (fullN n : Nat)) := by
  intro w0 H hT
  refine L_enter Tryd.func55 rfl Tryd.ntmps55 rfl rfl ?_
  refine W_sr ?_
  refine W_assign rfl rfl ?_
  refine W_nil ?_
  refine W_seq ?_
  refine W_block ?_
  refine W_sr ?_
  refine W_move rfl rfl ?_
  refine W_bin rfl rfl b_lss rfl ?_
  refine W_assign rfl rfl ?_
  refine W_nil ?_
  refine W_condPS (p := n < 1) rfl (by simp) (fun c0 => ?_) (fun c0 => ?_)
  · skip
    refine W_sr ?_
    refine W_assign rfl rfl ?_
    refine W_nil ?_
    refine W_ret1m Tryd.results55 rfl (.nil _) (.refl _) ?_
    exact ⟨by unfold fullN; rw [if_pos c0]; rfl, rfl⟩
  · skip
    refine W_sr ?_
    refine W_move rfl rfl ?_
    refine W_bin rfl rfl b_geq rfl ?_
    refine W_assign rfl rfl ?_
    refine W_nil ?_
    refine W_condPS (p := 64 ≤ n) rfl (by simp) (fun c1 => ?_) (fun c1 => ?_)
    · skip
      refine W_sr ?_
      refine W_assign rfl rfl ?_
      refine W_nil ?_
      refine W_ret1m Tryd.results55 rfl (.nil _) (.refl _) ?_
      exact ⟨by unfold fullN; rw [if_neg c0, if_pos c1]; rfl, rfl⟩
    · skip
      refine W_skip ?_
      refine W_blk ?_
      refine W_sr ?_
      refine W_move rfl rfl ?_
      refine W_callp (.cons rfl .nil) Tryd.call54 rfl hT (bit_pure _) ?_
      refine W_bin rfl rfl (b_sub (m := ((2 ^ n.toNat - 1 : Nat) : Int)) (by unfold bitN; rw [if_pos (by omega)]; have := Nat.two_pow_pos n.toNat; have := pow64 (i := n.toNat) (by omega); rw [u64w (by omega)]; omega)) rfl ?_
      refine W_assign rfl rfl ?_
      refine W_nil ?_
      refine W_ret1m Tryd.results55 rfl (.nil _) (.refl _) ?_
      exact ⟨by unfold fullN; rw [if_neg c0, if_neg c1], rfl⟩
set_option maxHeartbeats 1000000 in
theorem has_m (m : Nat) (i : Int) (hm : MaskOk m) : Pure Tryd.prog (Tab) 36 [.int .u64 (m : Int), .int .i64 i] (.bool (hasN m i)) := by
  intro w0 H hT
  refine L_enter Tryd.func36 rfl Tryd.ntmps36 rfl rfl ?_
  refine W_sr ?_
  refine W_assign rfl rfl ?_
  refine W_nil ?_
  refine W_sr ?_
  refine W_move rfl rfl ?_
  refine W_move rfl rfl ?_
  refine W_callp (.cons rfl .nil) Tryd.call54 rfl hT (bit_pure _) ?_
  refine W_bin rfl rfl (b_and rfl) rfl ?_
  refine W_bin rfl rfl b_neq rfl ?_
  refine W_assign rfl rfl ?_
  refine W_nil ?_
  refine W_ret1m Tryd.results36 rfl (.nil _) (.refl _) ?_
  exact ⟨by rw [← and_has hm i], rfl⟩
set_option maxHeartbeats 1000000 in
theorem with_q {w0 : World} {H : Heap} (m : Nat) (l : List Int) {ad : Option Addr} {cap : Nat} (hm : MaskOk m) (hn : l.length ≤ 4611686018427387904) (hrow : Holds w0 H ad (i64s l)) (hT : Tab w0) : PureAt Tryd.prog w0 H 57 [.int .u64 (m : Int), .slice ad l.length cap] (.int .u64 ((withL m l : Nat) : Int)) := by
  refine L_enter Tryd.func57 rfl Tryd.ntmps57 rfl rfl ?_
  refine W_sr ?_
  refine W_assign rfl rfl ?_
  refine W_nil ?_
  refine W_seq ?_
  refine W_sr ?_
  refine W_move rfl rfl ?_
  refine W_len rfl ty113 rfl rfl ?_
  refine W_move rfl rfl ?_
  refine W_nil ?_
  refine W_block ?_
  refine W_loopD (X := Nat) (fun i => [(0, .int .u64 ((withL m (l.take i) : Nat) : Int)), (7, .slice ad l.length cap), (8, .int .i64 (l.length : Int)), (9, .int .i64 (i : Int))]) (fun _ => []) (fun _ => H) (fun i => i ≤ l.length) (fun i => l.length - i) 0 (by omega) (sub_cons rfl (sub_cons rfl (sub_cons rfl (sub_cons rfl (sub_nil _))))) rfl (by first | exact hsubI | (repeat (first | exact HSub.refl _ | refine HSub.cons zT ?_ | refine HSub.app (by repeat (first | exact TakeS.here _ | apply TakeS.next | apply TakeS.app)) ?_ | refine HSub.drop ?_ | refine HSub.dropS ?_ | exact HSub.nil _))) ?_
  intro i hi
  have hok := withL_ok (l.take i) hm
  refine W_sr ?_
  refine W_bin rfl rfl b_lss rfl ?_
  refine W_nil ?_
  refine W_seq ?_
  refine W_condPS (p := (i : Int) < (l.length : Int)) rfl (by simp) (fun c0 => ?_) (fun c0 => ?_)
  · skip
    refine W_skip ?_
    refine W_seq ?_
    refine W_block ?_
    refine W_sr ?_
    obtain ⟨x, hx⟩ : ∃ x, l[i]? = some x := ⟨_, List.getElem?_eq_getElem (by omega)⟩
    obtain ⟨b, o, rfl, hc⟩ := hrow i _ (i64s_at hx)
    refine W_indexAddr (j := i) rfl rfl ty113 ty3 rfl (by omega) rfl rfl ?_
    refine W_load rfl ty3 rfl (by rw [Nat.mul_one]; exact hc) rfl ?_
    refine W_assign rfl rfl ?_
    refine W_nil ?_
    refine W_region ?_
    refine W_move rfl rfl ?_
    refine W_move rfl rfl ?_
    refine W_callp (.cons rfl .nil) Tryd.call54 rfl hT (bit_pure _) ?_
    refine W_bin rfl rfl (b_or rfl) rfl ?_
    refine W_assign rfl rfl ?_
    refine W_nil ?_
    refine W_blk ?_
    refine W_region ?_
    refine W_bin rfl rfl (b_add (m := ((i + 1 : Nat) : Int)) ((i64w (by omega)).trans (by omega))) rfl ?_
    refine W_move rfl rfl ?_
    refine W_nil ?_
    refine W_again (i + 1) (by omega) (by omega) (sub_cons (by rw [show withL m (l.take (i + 1)) = withL m (l.take i) ||| bitN x from foldl_at hx]; exact congrArg (fun z => some (Value.int .u64 z)) (or_mask hok x)) (sub_cons rfl (sub_cons rfl (sub_cons rfl (sub_nil _))))) rfl (by first | exact hsubI | (repeat (first | exact HSub.refl _ | refine HSub.cons zT ?_ | refine HSub.app (by repeat (first | exact TakeS.here _ | apply TakeS.next | apply TakeS.app)) ?_ | refine HSub.drop ?_ | refine HSub.dropS ?_ | exact HSub.nil _)))
  · skip
    refine W_exit rfl ?_
    refine W_sr ?_
    refine W_move rfl rfl ?_
    refine W_assign rfl rfl ?_
    refine W_nil ?_
    refine W_ret1m (H2 := H) Tryd.results57 rfl (.nil _) (by first | exact hsubI | (repeat (first | exact HSub.refl _ | refine HSub.cons zT ?_ | refine HSub.app (by repeat (first | exact TakeS.here _ | apply TakeS.next | apply TakeS.app)) ?_ | refine HSub.drop ?_ | refine HSub.dropS ?_ | exact HSub.nil _))) ?_
    obtain rfl : i = l.length := by omega
    exact ⟨by rw [List.take_length], rfl⟩
set_option maxHeartbeats 1000000 in
theorem target_pure (x : Ins) (at_ : Int) : Pure Tryd.prog (Tab) 68 [.agg #[.int .i64 x.op, .int .i64 x.dst, .int .i64 x.src, .int .i64 x.off, .int .i64 x.imm], .int .i64 at_] (.int .i64 (IntKind.i64.wrap (IntKind.i64.wrap (at_ + 1) + x.off))) := by
  intro w0 H hT
  refine L_enter Tryd.func68 rfl Tryd.ntmps68 rfl rfl ?_
  refine W_sr ?_
  refine W_box rfl rfl rfl (fun b2 => ?_)
  refine W_assign rfl rfl ?_
  refine W_nil ?_
  refine W_sr ?_
  refine W_move rfl rfl ?_
  refine W_bin rfl rfl (b_add rfl) rfl ?_
  refine W_fieldAddr rfl fld59_3 (by decide) rfl ?_
  refine W_load rfl ty3 rfl (Cell.own zM rfl) rfl ?_
  refine W_bin rfl rfl (b_add rfl) rfl ?_
  refine W_assign rfl rfl ?_
  refine W_nil ?_
  refine W_ret1m (H2 := H) Tryd.results68 rfl (.nil _) (by first | exact hsubI | (repeat (first | exact HSub.refl _ | refine HSub.cons zT ?_ | refine HSub.app (by repeat (first | exact TakeS.here _ | apply TakeS.next | apply TakeS.app)) ?_ | refine HSub.drop ?_ | refine HSub.dropS ?_ | exact HSub.nil _))) ?_
  exact ⟨rfl, rfl⟩
end Go.Proofs.YtcmfldfeakmdoaaDoor
namespace Go.Proofs.YtcmfldfeakmdoaaDoor
open Go Go.Sl
attribute [local irreducible] W
def helpA : List ByteArray := [⟨#[110, 111, 119]⟩, ⟨#[99, 112, 117]⟩, ⟨#[102, 105, 110, 100]⟩, ⟨#[112, 117, 116]⟩, ⟨#[100, 114, 111, 112]⟩, ⟨#[105, 110, 105, 116]⟩, ⟨#[99, 97, 108, 108, 98, 97, 99, 107]⟩, ⟨#[115, 116, 97, 114, 116]⟩, ⟨#[99, 97, 110, 99, 101, 108]⟩, ⟨#[115, 116, 111, 112]⟩, ⟨#[119, 111, 114, 107]⟩, ⟨#[113, 117, 101, 117, 101]⟩, ⟨#[99, 111, 112, 121, 105, 110]⟩, ⟨#[99, 111, 112, 121, 111, 117, 116]⟩, ⟨#[101, 109, 105, 116]⟩, ⟨#[112, 97, 117, 115, 101]⟩]
def helpC : ByteArray := ⟨#[110, 111, 119, 32, 99, 112, 117, 32, 102, 105, 110, 100, 32, 112, 117, 116, 32, 100, 114, 111, 112, 32, 105, 110, 105, 116, 32, 99, 97, 108, 108, 98, 97, 99, 107, 32, 115, 116, 97, 114, 116, 32, 99, 97, 110, 99, 101, 108, 32, 115, 116, 111, 112, 32, 119, 111, 114, 107, 32, 113, 117, 101, 117, 101, 32, 99, 111, 112, 121, 105, 110, 32, 99, 111, 112, 121, 111, 117, 116, 32, 101, 109, 105, 116, 32, 112, 97, 117, 115, 101]⟩
def helpL : List Int := [0, 0, 2, 4, 2, 1, 2, 4, 1, 1, 2, 1, 3, 3, 1, 0]
def helpS : ByteArray := ⟨#[48, 48, 50, 52, 50, 49, 50, 52, 49, 49, 50, 49, 51, 51, 49, 48]⟩
theorem fields_help {w0 : World} {H : Heap} (hT : Tab w0) : LCalls Tryd.prog w0 67 #[.string helpC] H (fun v H' => ∃ b, v = .slice (some ⟨b, 0, none⟩) 16 16 ∧ H' = (b, .cells 9 16 (helpA.map Value.string)) :: H) := by
  have hf : Lib.fields helpC.data.toList = [[110, 111, 119], [99, 112, 117], [102, 105, 110, 100], [112, 117, 116], [100, 114, 111, 112], [105, 110, 105, 116], [99, 97, 108, 108, 98, 97, 99, 107], [115, 116, 97, 114, 116], [99, 97, 110, 99, 101, 108], [115, 116, 111, 112], [119, 111, 114, 107], [113, 117, 101, 117, 101], [99, 111, 112, 121, 105, 110], [99, 111, 112, 121, 111, 117, 116], [101, 109, 105, 116], [112, 97, 117, 115, 101]] := by decide
  have h : ∀ w, Tab w → Calls Tryd.prog 67 #[.string helpC] w fun en w' => en = .returned (.slice (some ⟨w.heap.size, 0, none⟩) 16 16) ∧ w' = w.alloc (.cells (helpA.map Value.string).toArray 9) := fun w ht => by
    have := Tryd.strings_Fields helpC w (by decide) (ascii_of (by decide)) ht
    rw [hf] at this
    exact this
  refine (L_of_alloc (g := fun a => .slice (some a) 16 16) h (fun w hs => tab_of hT hs)).mono ?_
  rintro v H' ⟨b, rfl, rfl⟩
  exact ⟨b, rfl, rfl⟩
theorem args_at : ∀ k : Fin 16, ∃ r, helpS[k.val]? = some r ∧ IntKind.u8.wrap ((r.toNat : Int) - 48) = helpL.getD k.val 0 := by decide +kernel
theorem args_u8 : ∀ k : Fin 16, IntKind.i64.wrap (helpL.getD k.val 0) = helpL.getD k.val 0 := by decide +kernel
def helpB (id : Int) : Bool := decide (1 ≤ id) && decide (id ≤ 16)
def helpN (id : Int) : ByteArray := if helpB id = true then helpA.getD (id - 1).toNat ⟨#[]⟩ else ⟨#[]⟩
def helpG (id : Int) : Int := if helpB id = true then helpL.getD (id - 1).toNat 0 else 0
theorem helpR_in {k : Nat} (h : k < 16) : helpB ((k : Int) + 1) = true ∧ helpN ((k : Int) + 1) = helpA.getD k ⟨#[]⟩ ∧ helpG ((k : Int) + 1) = helpL.getD k 0 := by
  have hb : helpB ((k : Int) + 1) = true := by unfold helpB; simp; omega
  refine ⟨hb, ?_, ?_⟩
  · unfold helpN; rw [if_pos hb]; congr 1; omega
  · unfold helpG; rw [if_pos hb]; congr 1; omega
theorem helpR_out {id : Int} (h : id < 1 ∨ 16 < id) : helpB id = false ∧ helpN id = ⟨#[]⟩ ∧ helpG id = 0 := by
  have hb : helpB id = false := by unfold helpB; simp; omega
  exact ⟨hb, by unfold helpN; rw [hb]; rfl, by unfold helpG; rw [hb]; rfl⟩
set_option maxHeartbeats 1000000 in
theorem helper_pure (id : Int) (hid : I64 id) : Pure Tryd.prog (Tab) 52 [.int .i64 id] (.tuple #[.string (helpN id), .int .i64 (helpG id), .bool (helpB id)]) := by
  intro w0 H hT
  refine L_enter Tryd.func52 rfl Tryd.ntmps52 rfl rfl ?_
  refine W_sr ?_
  refine W_assign rfl rfl ?_
  refine W_assign rfl rfl ?_
  refine W_assign rfl rfl ?_
  refine W_nil ?_
  refine W_seq ?_
  refine W_sr ?_
  refine W_move rfl rfl ?_
  refine W_bin rfl rfl b_lss rfl ?_
  refine W_move rfl rfl ?_
  apply W_or
  iterate 4 exact rfl
  case h1 =>
    intro hg2
    refine W_gyes rfl rfl ?_
    refine W_move rfl rfl ?_
    refine W_gyes rfl rfl ?_
    refine W_bin rfl rfl b_gtr rfl ?_
    exact W_met rfl zR
  refine W_nil ?_
  refine W_condPS (p := id < 1 ∨ 16 < id) rfl (by simp) (fun c0 => ?_) (fun c0 => ?_)
  · skip
    refine W_sr ?_
    refine W_assign rfl rfl ?_
    refine W_assign rfl rfl ?_
    refine W_assign rfl rfl ?_
    refine W_nil ?_
    refine W_ret3m (H2 := H) Tryd.results52 rfl rfl rfl (.nil _) (by first | exact hsubI | (repeat (first | exact HSub.refl _ | refine HSub.cons zT ?_ | refine HSub.app (by repeat (first | exact TakeS.here _ | apply TakeS.next | apply TakeS.app)) ?_ | refine HSub.drop ?_ | refine HSub.dropS ?_ | exact HSub.nil _))) ?_
    obtain ⟨e1, e2, e3⟩ := helpR_out c0
    exact ⟨by rw [e1, e2, e3], rfl⟩
  · skip
    refine W_skip ?_
    refine W_seq ?_
    refine W_any (by kernel_rfl) ?_
    obtain ⟨k, rfl, hk⟩ : ∃ k : Nat, id = (k : Int) + 1 ∧ k < 16 := ⟨(id - 1).toNat, by omega, by omega⟩
    obtain ⟨r, hr, hrv⟩ := args_at ⟨k, hk⟩
    refine WA_take 1 (l' := #[false, true, false, false, false, false, false, false, false, false, false, false, false]) rfl (by decide +kernel) (by decide +kernel) (by decide +kernel) (fun _ h => by cases h) (fun _ h => by cases h) (by decide +kernel) (X_move rfl) rfl ?_
    refine WA_take 2 (l' := #[false, true, true, false, false, false, false, false, false, false, false, false, false]) rfl (by decide +kernel) (by decide +kernel) (by decide +kernel) (fun _ h => by cases h) (fun _ h => by cases h) (by decide +kernel) (X_bin rfl rfl (b_sub (m := (k : Int)) ((i64w (by omega)).trans (by omega)))) rfl ?_
    refine WA_take 5 (l' := #[false, true, true, false, false, true, false, false, false, false, false, false, false]) rfl (by decide +kernel) (by decide +kernel) (by decide +kernel) (fun _ h => by cases h) (fun _ h => by cases h) (by decide +kernel) (X_move rfl) rfl ?_
    refine WA_take 6 (l' := #[false, true, true, false, false, true, true, false, false, false, false, false, false]) rfl (by decide +kernel) (by decide +kernel) (by decide +kernel) (fun _ h => by cases h) (fun _ h => by cases h) (by decide +kernel) (X_bin rfl rfl (b_sub (m := (k : Int)) ((i64w (by omega)).trans (by omega)))) rfl ?_
    refine WA_take 7 (l' := #[false, true, true, false, false, true, true, true, false, false, false, false, false]) rfl (by decide +kernel) (by decide +kernel) (by decide +kernel) (fun _ h => by cases h) (fun _ h => by cases h) (by decide +kernel) (X_indexS (j := k) rfl rfl ty9 rfl hr rfl) rfl ?_
    refine WA_take 8 (l' := #[false, true, true, false, false, true, true, true, true, false, false, false, false]) rfl (by decide +kernel) (by decide +kernel) (by decide +kernel) (fun _ h => by cases h) (fun _ h => by cases h) (by decide +kernel) (X_bin rfl rfl (b_sub hrv)) rfl ?_
    refine WA_take 9 (l' := #[false, true, true, false, false, true, true, true, true, true, false, false, false]) rfl (by decide +kernel) (by decide +kernel) (by decide +kernel) (fun _ h => by cases h) (fun _ h => by cases h) (by decide +kernel) (X_conv rfl ty5 ty3 (args_u8 ⟨k, hk⟩)) rfl ?_
    refine WA_one 0 (l' := #[true, true, true, false, false, true, true, true, true, true, false, false, false]) (by decide +kernel) rfl (by decide +kernel) (fun _ h => by cases h) ?_
    refine W_call (.cons rfl .nil) Tryd.call67 rfl (fields_help hT) ?_
    rintro v H' ⟨bn, rfl, rfl⟩
    refine W_nil ?_
    refine WA_goal ?_
    refine WA_one 3 (l' := #[true, true, true, true, false, true, true, true, true, true, false, false, false]) (by decide +kernel) rfl (by decide +kernel) (fun _ h => by cases h) ?_
    refine W_indexAddr (j := k) rfl rfl ty123 ty9 rfl hk rfl rfl ?_
    refine W_nil ?_
    refine WA_goal ?_
    refine WA_one 4 (l' := #[true, true, true, true, true, true, true, true, true, true, false, false, false]) (by decide +kernel) rfl (by decide +kernel) (fun _ h => by cases h) ?_
    refine W_load rfl ty9 rfl (Cell.own zM (by rw [Nat.zero_add, Nat.mul_one]; exact getD_str (by show k < 16; omega))) rfl ?_
    refine W_nil ?_
    refine WA_goal ?_
    refine WA_one 10 (l' := #[true, true, true, true, true, true, true, true, true, true, true, false, false]) (by decide +kernel) rfl (by decide +kernel) (fun _ h => by cases h) ?_
    refine W_assign rfl rfl ?_
    refine W_nil ?_
    refine WA_goal ?_
    refine WA_one 11 (l' := #[true, true, true, true, true, true, true, true, true, true, true, true, false]) (by decide +kernel) rfl (by decide +kernel) (fun _ h => by cases h) ?_
    refine W_assign rfl rfl ?_
    refine W_nil ?_
    refine WA_goal ?_
    refine WA_one 12 (l' := #[true, true, true, true, true, true, true, true, true, true, true, true, true]) (by decide +kernel) rfl (by decide +kernel) (fun _ h => by cases h) ?_
    refine W_assign rfl rfl ?_
    refine W_nil ?_
    refine WA_goal ?_
    refine WA_done (by decide +kernel) ?_
    refine W_ret3m (H2 := H) Tryd.results52 rfl rfl rfl (.nil _) (by first | exact hsubI | (repeat (first | exact HSub.refl _ | refine HSub.cons zT ?_ | refine HSub.app (by repeat (first | exact TakeS.here _ | apply TakeS.next | apply TakeS.app)) ?_ | refine HSub.drop ?_ | refine HSub.dropS ?_ | exact HSub.nil _))) ?_
    obtain ⟨e1, e2, e3⟩ := helpR_in hk
    exact ⟨by rw [e1, e2, e3], rfl⟩
end Go.Proofs.YtcmfldfeakmdoaaDoor
namespace Go.Proofs.YtcmfldfeakmdoaaDoor
open Go Go.Sl
attribute [local irreducible] W
theorem cells_len (x : Ins) : x.cells.length = 5 := rfl
abbrev insRow (l : List Ins) : List Value := l.flatMap Ins.cells
def wordN : List Bool → Nat
  | [] => 0
  | b :: l => (if b = true then 1 else 0) + 2 * wordN l
theorem wordN_lt : ∀ l : List Bool, wordN l < 2 ^ l.length
  | [] => by simp [wordN]
  | b :: l => by
    have := wordN_lt l
    simp only [wordN, List.length_cons, Nat.pow_succ]
    split <;> omega
end Go.Proofs.YtcmfldfeakmdoaaDoor
