/-
  Own work: contracts of functions that the statement reaches, and plain facts on what they compute; each theorem says its conditions.
-/
import Derived.Test.YtcmfldfeakmdoaaGreatDoorTpT1
import Derived.Test.YtcmfldfeakmdoaaGreatDoorTpS2
import Derived.Test.YtcmfldfeakmdoaaGreatDoorTpS1
import Derived.Test.YtcmfldfeakmdoaaGreatDoorTpA
set_option linter.all false
set_option linter.unusedSimpArgs false
set_option linter.unusedVariables false
set_option maxHeartbeats 16000000
namespace Go.Proofs.YtcmfldfeakmdoaaGreatDoor
open Go Go.Sl
attribute [local irreducible] W
theorem set_at {buf : List Int} {i j : Nat} {x y : Int} (h : buf[j]? = some y) (hne : i ≠ j) : (buf.set i x)[j]? = some y := by rw [List.getElem?_set_ne hne]; exact h
theorem RingI.pop {R h : Nat} {x : Int} {l buf : List Int} (hI : RingI R (x :: l) buf h) : RingI R l (buf.set h 0) ((h + 1) % R) := by
 obtain ⟨h1, h2, h3, h4, h5, h6⟩ := hI
 simp only [List.length_cons] at h5
 refine ⟨h1, h2, by rw [List.length_set, h3], Nat.mod_lt _ h1, by omega, fun i y hy => ?_⟩
 have hi := (List.getElem?_eq_some_iff.1 hy).1
 have e : ((h + 1) % R + i) % R = (h + (i + 1)) % R := by rw [Nat.mod_add_mod]; congr 1; omega
 rw [e]
 refine set_at (h6 (i + 1) y (by simpa using hy)) ?_
 by_cases c : h + (i + 1) < R
 ·rw [Nat.mod_eq_of_lt c]; omega
 ·have e2 : (h + (i + 1)) % R = h + (i + 1) - R := by rw [Nat.mod_eq_sub_mod (by omega), Nat.mod_eq_of_lt (by omega)]
  omega
theorem RingI.push {R h : Nat} {x : Int} {l buf : List Int} (hI : RingI R l buf h) (hr : l.length < R) : RingI R (l ++ [x]) (buf.set ((h + l.length) % R) x) h := by
 obtain ⟨h1, h2, h3, h4, h5, h6⟩ := hI
 refine ⟨h1, h2, by rw [List.length_set, h3], h4, by rw [List.length_append, List.length_singleton]; exact hr, fun i y hy => ?_⟩
 have hm : (h + l.length) % R < R := Nat.mod_lt _ h1
 by_cases c : i = l.length
 ·subst c
  rw [List.getElem?_append_right (Nat.le_refl _), Nat.sub_self] at hy
  obtain rfl : x = y := by simpa using hy
  rw [List.getElem?_set_self (by omega)]
 ·have hi := (List.getElem?_eq_some_iff.1 hy).1
  rw [List.length_append, List.length_singleton] at hi
  rw [List.getElem?_append_left (by omega)] at hy
  refine set_at (h6 i y hy) (fun e => c ?_)
  have e1 : ∀ k, k < R → (h + k) % R = if h + k < R then h + k else h + k - R := fun k hk => by
   split
   ·rename_i q; exact Nat.mod_eq_of_lt q
   ·rename_i q; rw [Nat.mod_eq_sub_mod (by omega), Nat.mod_eq_of_lt (by omega)]
  rw [e1 _ hr, e1 i (by omega)] at e
  split at e <;> split at e <;> omega
theorem mod_inj {R h i j : Nat} (hh : h < R) (hi : i < R) (hj : j < R) (e : (h + i) % R = (h + j) % R) : i = j := by
 have e1 : ∀ k, k < R → (h + k) % R = if h + k < R then h + k else h + k - R := fun k hk => by
  split
  ·rename_i q; exact Nat.mod_eq_of_lt q
  ·rename_i q; rw [Nat.mod_eq_sub_mod (by omega), Nat.mod_eq_of_lt (by omega)]
 rw [e1 i hi, e1 j hj] at e
 split at e <;> split at e <;> omega
theorem rPop_at {w0 : World} {H : Heap} {R rb b h : Nat} {x : Int} {l buf : List Int} (hI : RingI R (x :: l) buf h)  : LCalls Tryz.prog w0 91 #[.pointer (some ⟨rb, 0, none⟩)] ((rb, .cells 160 3 [.slice (some ⟨b, 0, none⟩) R R, .int .i64 ((h : Nat) : Int), .int .i64 (((x :: l).length : Nat) : Int)]) :: (b, .cells 3 (R * 1) ((buf).map (Value.int .i64))) :: H) (fun v H' => v = .tuple #[.int .i64 x, .bool true] ∧ H' = (rb, .cells 160 3 [.slice (some ⟨b, 0, none⟩) R R, .int .i64 (((h + 1) % R : Nat) : Int), .int .i64 ((l.length : Nat) : Int)]) :: (b, .cells 3 (R * 1) ((buf.set h 0).map (Value.int .i64))) :: H) := by
 have hmost := hI.most
 have hroom := hI.room
 have hbl := hI.len
 have hhd := hI.head
 simp only [List.length_cons] at hmost
 refine L_enter (l := [.pointer (some ⟨rb, 0, none⟩)]) Tryz.func91 rfl Tryz.ntmps91 rfl rfl ?_
 refine W_sr ?_
 refine W_assign rfl rfl ?_
 refine W_assign rfl rfl ?_
 refine W_nil (W_sr ?_)
 refine W_move rfl rfl ?_
 refine W_callq (.cons rfl (.cons rfl .nil)) Tryz.call100 rfl (rAt_q (z := 0) hI zM zM) ?_
 rw [show atV (x :: l) 0 = .tuple #[.int .i64 x, .bool true] from rfl]
 refine W_move rfl rfl ?_
 refine W_extract rfl rfl rfl ?_
 refine W_extract rfl rfl rfl ?_
 refine W_assign rfl rfl ?_
 refine W_assign rfl rfl ?_
 refine W_nil (W_seq (W_sr ?_))
 refine W_move rfl rfl ?_
 refine W_nil ?_
 refine W_condT rfl rfl ?_
 refine W_sr ?_
 refine W_assign rfl rfl ?_
 refine W_nil (W_seq ?_)
 refine W_anyC [(rb, .cells 160 3 [.slice (some ⟨b, 0, none⟩) R R, .int .i64 ((h : Nat) : Int), .int .i64 (((x :: l).length : Nat) : Int)])] zk ?_
 refine WC_take 0 (l' := #[true, false, false, false, false, false, false, false, false, false, false]) rfl zK zK zK rfl zK (X_move rfl) rfl ?_
 refine WC_take 1 (l' := #[true, true, false, false, false, false, false, false, false, false, false]) rfl zK zK zK rfl zK (X_nilCheck rfl) rfl ?_
 refine WC_take 2 (l' := #[true, true, true, false, false, false, false, false, false, false, false]) rfl zK zK zK rfl zK (X_fieldAddr rfl fld160_0 zd) rfl ?_
 refine WC_take 3 (l' := #[true, true, true, true, false, false, false, false, false, false, false]) rfl zK zK zK rfl zK (X_load (v := .slice (some ⟨b, 0, none⟩) R R) rfl ty24 rfl (Cell.own (b := rb) zM rfl)) rfl ?_
 refine WC_take 4 (l' := #[true, true, true, true, true, false, false, false, false, false, false]) rfl zK zK zK rfl zK (X_move rfl) rfl ?_
 refine WC_take 5 (l' := #[true, true, true, true, true, true, false, false, false, false, false]) rfl zK zK zK rfl zK (X_nilCheck rfl) rfl ?_
 refine WC_take 6 (l' := #[true, true, true, true, true, true, true, false, false, false, false]) rfl zK zK zK rfl zK (X_fieldAddr rfl fld160_1 zd) rfl ?_
 refine WC_take 7 (l' := #[true, true, true, true, true, true, true, true, false, false, false]) rfl zK zK zK rfl zK (X_load (v := .int .i64 ((h : Nat) : Int)) rfl ty3 rfl (Cell.own (b := rb) zM rfl)) rfl ?_
 refine WC_take 8 (l' := #[true, true, true, true, true, true, true, true, true, false, false]) rfl zK zK zK rfl zK (X_move rfl) rfl ?_
 refine WC_take 9 (l' := #[true, true, true, true, true, true, true, true, true, true, false]) rfl (by decide +kernel) (by decide +kernel) (by decide +kernel) rfl (by decide +kernel) (X_indexAddr (j := h) rfl rfl ty24 ty3 (by first | rfl | omega) (by first | decide | omega | simp) rfl) rfl ?_
 refine WC_one 10 (l' := #[true, true, true, true, true, true, true, true, true, true, true]) zH zK rfl zK ?_
 refine W_store (l' := ((buf.set (h) 0)).map (Value.int .i64)) rfl rfl ty3 rfl rfl (b := b) zM (by rw [List.length_map, Nat.blt_eq]; omega) (by rw [List.map_set]; congr 1; omega) zU ?_
 refine W_nil ?_
 refine WC_goal ?_
 refine WC_done zH zK ?_
 refine W_sr ?_
 refine W_move rfl rfl ?_
 refine W_move rfl rfl ?_
 refine W_callq (.cons rfl (.cons rfl .nil)) Tryz.call111 rfl (place_q (i := 1) (n := (x :: l).length) zM hI.pos hI.room hI.head zO) ?_
 refine W_nilCheck rfl rfl ?_
 refine W_fieldAddr rfl fld160_1 zd rfl ?_
 refine W_store (l' := [.slice (some ⟨b, 0, none⟩) R R, .int .i64 (((h + 1) % R : Nat) : Int), .int .i64 (((x :: l).length : Nat) : Int)]) rfl rfl ty3 rfl rfl (b := rb) zM rfl rfl zU ?_
 refine W_nil ?_
 refine W_region ?_
 refine W_move rfl rfl ?_
 refine W_nilCheck rfl rfl ?_
 refine W_fieldAddr rfl fld160_2 zd rfl ?_
 refine W_load (v := .int .i64 (((x :: l).length : Nat) : Int)) rfl ty3 rfl (Cell.own (b := rb) zM rfl) rfl ?_
 refine W_bin rfl rfl (b_sub (m := ((l.length : Nat) : Int)) (by rw [i64w (by simp only [List.length_cons]; omega)]; simp only [List.length_cons]; omega)) rfl ?_
 refine W_nilCheck rfl rfl ?_
 refine W_fieldAddr rfl fld160_2 zd rfl ?_
 refine W_store (l' := [.slice (some ⟨b, 0, none⟩) R R, .int .i64 (((h + 1) % R : Nat) : Int), .int .i64 ((l.length : Nat) : Int)]) rfl rfl ty3 rfl rfl (b := rb) zM rfl rfl zU ?_
 refine W_nil (W_sr ?_)
 refine W_move rfl rfl ?_
 refine W_move rfl rfl ?_
 refine W_assign rfl rfl ?_
 refine W_assign rfl rfl ?_
 refine W_nil ?_
 refine W_ret2m Tryz.results91 rfl rfl (.nil _) (.refl _) ?_
 exact ⟨rfl, rfl⟩
theorem rPop_L {w0 : World} {H HB : Heap} {R rb : Nat} {x : Int} {l : List Int} (hR : RingH R rb (x :: l) HB) : LCalls Tryz.prog w0 91 #[.pointer (some ⟨rb, 0, none⟩)] (HB ++ H) (fun v H' => ∃ HB', RingH R rb l HB' ∧ v = .tuple #[.int .i64 x, .bool true] ∧ H' = HB' ++ H) := by
 cases hR with
 | mk hI =>
  refine (rPop_at (H := H) hI).mono ?_
  rintro v H' ⟨rfl, rfl⟩
  exact ⟨_, .mk hI.pop, rfl, rfl⟩
theorem rPush_at {w0 : World} {H : Heap} {R rb b h : Nat} {l buf : List Int} (hI : RingI R l buf h) {xs : List Int} {ad : Option Addr} {cap : Nat} (hxl : xs.length ≤ 1000000) (hxc : xs.length ≤ cap) (hs : Holds w0 H ad (xs.map (Value.int .i64)))  : LCalls Tryz.prog w0 89 #[.pointer (some ⟨rb, 0, none⟩), .slice ad xs.length cap] ((rb, .cells 160 3 [.slice (some ⟨b, 0, none⟩) R R, .int .i64 ((h : Nat) : Int), .int .i64 ((l.length : Nat) : Int)]) :: (b, .cells 3 (R * 1) ((buf).map (Value.int .i64))) :: H) (fun v H' => ∃ buf', RingI R (l ++ xs.take (min xs.length (R - l.length))) buf' h ∧ v = .int .i64 (((min xs.length (R - l.length)) : Nat) : Int) ∧ H' = (rb, .cells 160 3 [.slice (some ⟨b, 0, none⟩) R R, .int .i64 ((h : Nat) : Int), .int .i64 (((l.length + (min xs.length (R - l.length))) : Nat) : Int)]) :: (b, .cells 3 (R * 1) ((buf').map (Value.int .i64))) :: H) := by
 have hmost := hI.most
 have hroom := hI.room
 have hhd := hI.head
 have hpos := hI.pos
 obtain ⟨k, hk⟩ : ∃ k, k = min xs.length (R - l.length) := ⟨_, rfl⟩
 rw [← hk]
 refine L_enter (l := [.pointer (some ⟨rb, 0, none⟩), .slice ad xs.length cap]) Tryz.func89 rfl Tryz.ntmps89 rfl rfl ?_
 refine W_sr ?_
 refine W_assign rfl rfl ?_
 refine W_nil (W_seq (W_sr ?_))
 refine W_move rfl rfl ?_
 refine W_x (X_ptrNil rfl rfl ty127) (fun _ h => by cases h) rfl ?_
 refine W_nil ?_
 refine W_condF rfl rfl ?_
 refine W_skip ?_
 refine W_quietsr zk zK ?_
 refine WQ_x (X_move rfl) rfl ?_
 refine WQ_x (X_len rfl ty24 rfl) rfl ?_
 refine WQ_x (X_move rfl) rfl ?_
 refine WQ_x (X_nilCheck rfl) rfl ?_
 refine WQ_x (X_fieldAddr rfl fld160_0 zd) rfl ?_
 refine WQ_x (X_load (v := .slice (some ⟨b, 0, none⟩) R R) rfl ty24 rfl (Cell.own (b := rb) zM rfl)) rfl ?_
 refine WQ_x (X_len rfl ty24 rfl) rfl ?_
 refine WQ_x (X_move rfl) rfl ?_
 refine WQ_x (X_nilCheck rfl) rfl ?_
 refine WQ_x (X_fieldAddr rfl fld160_2 zd) rfl ?_
 refine WQ_x (X_load (v := .int .i64 ((l.length : Nat) : Int)) rfl ty3 rfl (Cell.own (b := rb) zM rfl)) rfl ?_
 refine WQ_x (X_bin rfl rfl (b_sub (m := ((R - l.length : Nat) : Int)) (by rw [i64w (by omega)]; omega))) rfl ?_
 refine WQ_x (X_min2 rfl rfl (m := ((k : Nat) : Int)) (by split <;> omega)) rfl ?_
 refine WQ_x (X_assign rfl) rfl ?_
 refine WQ_nil ?_
 refine W_seq (W_sr ?_)
 refine W_move rfl rfl ?_
 refine W_move rfl rfl ?_
 refine W_slice0 (hh := k) rfl ty24 ty3 rfl ⟨_, rfl⟩ zO rfl ?_
 refine W_len rfl ty24 rfl rfl ?_
 refine W_move rfl rfl ?_
 refine W_nil (W_block ?_)
 refine W_loopC (X := (Nat × List Int)) [(0, _), (5, _), (25, _), (26, _)] (fun (x : (Nat × List Int)) => [(27, .int .i64 (x.1 : Int))]) (fun _ => _) (fun (x : (Nat × List Int)) => (rb, .cells 160 3 [.slice (some ⟨b, 0, none⟩) R R, .int .i64 ((h : Nat) : Int), .int .i64 (((l.length + x.1) : Nat) : Int)]) :: (b, .cells 3 (R * 1) ((x.2).map (Value.int .i64))) :: H) (fun (x : (Nat × List Int)) => x.1 ≤ k ∧ RingI R (l ++ xs.take x.1) x.2 h) (fun (x : (Nat × List Int)) => k - x.1) (0, buf) ⟨Nat.zero_le _, by rw [List.take_zero, List.append_nil]; exact hI⟩ (sub_cons rfl (sub_cons rfl (sub_cons rfl (sub_cons rfl (sub_nil _))))) (sub_cons rfl (sub_nil _)) rfl (.refl _) ?_
 rintro ⟨i, bufi⟩ ⟨hi, hIi⟩
 dsimp only at hi hIi ⊢
 have hlen : (l ++ xs.take i).length = l.length + i := by rw [List.length_append, List.length_take]; omega
 simp only [List.cons_append, List.nil_append]
 refine W_sr ?_
 refine W_bin rfl rfl b_lss rfl ?_
 refine W_nil (W_seq ?_)
 refine W_condPS (p := (i : Int) < (k : Int)) rfl (by simp) (fun q0 => ?_) (fun q0 => ?_)
 ·skip
  refine W_skip (W_seq ?_)
  refine W_block (W_sr ?_)
  obtain ⟨x, hx⟩ : ∃ x, xs[i]? = some x := ⟨_, List.getElem?_eq_getElem zO⟩
  obtain ⟨bs, os, rfl, hcx⟩ := hs.at (i := i) (v := .int .i64 x) (by rw [List.getElem?_map, hx]; rfl)
  have hbl := hIi.len
  have hpl : (h + (l.length + i)) % R < R := Nat.mod_lt _ hIi.pos
  refine W_indexAddr (j := i) rfl rfl ty24 ty3 rfl zO rfl rfl ?_
  refine W_load (v := .int .i64 x) rfl ty3 rfl (by rw [Nat.mul_one i]; exact hcx.up zH) rfl ?_
  refine W_assign rfl rfl ?_
  refine W_nil (W_seq ?_)
  refine W_anyC [(rb, .cells 160 3 [.slice (some ⟨b, 0, none⟩) R R, .int .i64 ((h : Nat) : Int), .int .i64 (((l.length + i) : Nat) : Int)])] zk ?_
  refine WC_take 0 (l' := #[true, false, false, false, false, false, false, false, false, false, false, false, false]) rfl zK zK zK rfl zK (X_move rfl) rfl ?_
  refine WC_take 1 (l' := #[true, true, false, false, false, false, false, false, false, false, false, false, false]) rfl zK zK zK rfl zK (X_nilCheck rfl) rfl ?_
  refine WC_take 2 (l' := #[true, true, true, false, false, false, false, false, false, false, false, false, false]) rfl zK zK zK rfl zK (X_fieldAddr rfl fld160_0 zd) rfl ?_
  refine WC_take 3 (l' := #[true, true, true, true, false, false, false, false, false, false, false, false, false]) rfl zK zK zK rfl zK (X_load (v := .slice (some ⟨b, 0, none⟩) R R) rfl ty24 rfl (Cell.own (b := rb) zM rfl)) rfl ?_
  refine WC_take 4 (l' := #[true, true, true, true, true, false, false, false, false, false, false, false, false]) rfl zK zK zK rfl zK (X_move rfl) rfl ?_
  refine WC_take 5 (l' := #[true, true, true, true, true, true, false, false, false, false, false, false, false]) rfl zK zK zK rfl zK (X_move rfl) rfl ?_
  refine WC_take 6 (l' := #[true, true, true, true, true, true, true, false, false, false, false, false, false]) rfl zK zK zK rfl zK (X_nilCheck rfl) rfl ?_
  refine WC_take 7 (l' := #[true, true, true, true, true, true, true, true, false, false, false, false, false]) rfl zK zK zK rfl zK (X_fieldAddr rfl fld160_2 zd) rfl ?_
  refine WC_take 8 (l' := #[true, true, true, true, true, true, true, true, true, false, false, false, false]) rfl zK zK zK rfl zK (X_load (v := .int .i64 (((l.length + i) : Nat) : Int)) rfl ty3 rfl (Cell.own (b := rb) zM rfl)) rfl ?_
  refine WC_take 10 (l' := #[true, true, true, true, true, true, true, true, true, false, true, false, false]) rfl zK zK zK rfl zK (X_move rfl) rfl ?_
  refine WC_one 9 (l' := #[true, true, true, true, true, true, true, true, true, true, true, false, false]) zH zK rfl zK ?_
  refine W_callq (.cons rfl (.cons rfl .nil)) Tryz.call111 rfl (place_q (i := l.length + i) (n := l.length + i) zM hpos hroom hhd zO) ?_
  refine W_nil ?_
  refine WC_goal ?_
  refine WC_take 11 (l' := #[true, true, true, true, true, true, true, true, true, true, true, true, false]) rfl (by decide +kernel) (by decide +kernel) (by decide +kernel) rfl (by decide +kernel) (X_indexAddr (j := (h + (l.length + i)) % R) rfl rfl ty24 ty3 (by first | rfl | omega) (by first | decide | omega | simp) rfl) rfl ?_
  refine WC_one 12 (l' := #[true, true, true, true, true, true, true, true, true, true, true, true, true]) zH zK rfl zK ?_
  refine W_store (l' := (bufi.set ((h + (l.length + i)) % R) x).map (Value.int .i64)) rfl rfl ty3 rfl rfl (b := b) zM (by rw [List.length_map, Nat.blt_eq]; omega) (by rw [List.map_set]; congr 1; omega) zU ?_
  refine W_nil ?_
  refine WC_goal ?_
  refine WC_done zH zK ?_
  refine W_region ?_
  refine W_move rfl rfl ?_
  refine W_nilCheck rfl rfl ?_
  refine W_fieldAddr rfl fld160_2 zd rfl ?_
  refine W_load (v := .int .i64 (((l.length + i) : Nat) : Int)) rfl ty3 rfl (Cell.own (b := rb) zM rfl) rfl ?_
  refine W_bin rfl rfl (b_add (m := ((l.length + (i + 1) : Nat) : Int)) (by rw [i64w (by omega)]; omega)) rfl ?_
  refine W_nilCheck rfl rfl ?_
  refine W_fieldAddr rfl fld160_2 zd rfl ?_
  refine W_store (l' := [.slice (some ⟨b, 0, none⟩) R R, .int .i64 ((h : Nat) : Int), .int .i64 (((l.length + (i + 1)) : Nat) : Int)]) rfl rfl ty3 rfl rfl (b := rb) zM rfl rfl zU ?_
  refine W_nil ?_
  refine W_blk ?_
  refine W_region ?_
  refine W_bin rfl rfl (b_add (m := ((i + 1 : Nat) : Int)) (by rw [i64w (by omega)]; omega)) rfl ?_
  refine W_move rfl rfl ?_
  refine W_nil ?_
  refine W_again (i + 1, bufi.set ((h + (l.length + i)) % R) x) ⟨by show i + 1 ≤ k; omega, by show RingI R (l ++ xs.take (i + 1)) _ _; rw [takeAt hx, ← List.append_assoc, ← hlen]; exact hIi.push (by omega)⟩ (by show k - (i + 1) < k - i; omega) (sub_cons rfl (sub_cons rfl (sub_cons rfl (sub_cons rfl (sub_cons rfl (sub_nil _)))))) rfl (.refl _)
 ·skip
  refine W_exit rfl ?_
  refine W_sr ?_
  refine W_move rfl rfl ?_
  refine W_assign rfl rfl ?_
  refine W_nil ?_
  refine W_ret1m Tryz.results89 rfl (.nil _) (.refl _) ?_
  obtain rfl : i = k := by omega
  exact ⟨bufi, hIi, rfl, rfl⟩
theorem rPush_L {w0 : World} {H HB : Heap} {R rb : Nat} {l : List Int} (hR : RingH R rb l HB) {xs : List Int} {ad : Option Addr} {cap : Nat} (hxl : xs.length ≤ 1000000) (hxc : xs.length ≤ cap) (hs : Holds w0 H ad (xs.map (Value.int .i64))) : LCalls Tryz.prog w0 89 #[.pointer (some ⟨rb, 0, none⟩), .slice ad xs.length cap] (HB ++ H) (fun v H' => ∃ HB', RingH R rb (l ++ xs.take (min xs.length (R - l.length))) HB' ∧ v = .int .i64 (((min xs.length (R - l.length)) : Nat) : Int) ∧ H' = HB' ++ H) := by
 cases hR with
 | mk hI =>
  refine (rPush_at (H := H) hI hxl hxc hs).mono ?_
  rintro v H' ⟨buf', hI', rfl, rfl⟩
  have e : l.length + (min xs.length (R - l.length)) = (l ++ xs.take (min xs.length (R - l.length))).length := by rw [List.length_append, List.length_take]; omega
  rw [e]
  exact ⟨_, .mk hI', rfl, rfl⟩
theorem RingI.move {R h : Nat} {l buf : List Int} (hI : RingI R l buf h) {k : Nat} {y : Int} (hk : k < l.length) : RingI R (l.set k y) (buf.set ((h + k) % R) y) h := by
 obtain ⟨h1, h2, h3, h4, h5, h6⟩ := hI
 refine ⟨h1, h2, by rw [List.length_set, h3], h4, by rw [List.length_set]; exact h5, fun i z hz => ?_⟩
 have hm : (h + k) % R < R := Nat.mod_lt _ h1
 by_cases c : k = i
 ·subst c
  rw [List.getElem?_set_self hk] at hz
  rw [List.getElem?_set_self (by omega), ← hz]
 ·rw [List.getElem?_set_ne c] at hz
  have hi := (List.getElem?_eq_some_iff.1 hz).1
  exact set_at (h6 i z hz) (fun e => c (mod_inj h4 zO zO e))
def shiftL (l : List Int) (i k : Nat) : List Int := l.take (k + 1) ++ ((l.take i).drop k ++ l.drop (i + 1))
theorem shiftL_len {l : List Int} {i k : Nat} (hi : i < l.length) (hk : k ≤ i) : (shiftL l i k).length = l.length := by
 unfold shiftL; simp only [List.length_append, List.length_take, List.length_drop]; omega
theorem shiftL_start {l : List Int} {i : Nat} (hi : i < l.length) : shiftL l i i = l := by
 unfold shiftL
 rw [List.drop_eq_nil_of_le (by rw [List.length_take]; omega), List.nil_append, List.take_append_drop]
theorem shiftL_at {l : List Int} {i k j : Nat} (hi : i < l.length) (hk : k ≤ i) : (shiftL l i k)[j]? = if j ≤ k then l[j]? else if j ≤ i then l[j - 1]? else l[j]? := by
 unfold shiftL
 by_cases c : j ≤ k
 ·rw [if_pos c, List.getElem?_append_left (by rw [List.length_take]; omega), List.getElem?_take, if_pos (by omega)]
 ·rw [if_neg c, List.getElem?_append_right (by rw [List.length_take]; omega), List.length_take, Nat.min_eq_left (by omega)]
  by_cases d : j ≤ i
  ·rw [if_pos d, List.getElem?_append_left (by rw [List.length_drop, List.length_take]; omega), List.getElem?_drop, List.getElem?_take, if_pos (by omega)]
   congr 1; omega
  ·rw [if_neg d, List.getElem?_append_right (by rw [List.length_drop, List.length_take]; omega), List.getElem?_drop, List.length_drop, List.length_take]
   congr 1; omega
theorem shiftL_step {l : List Int} {i k : Nat} {y : Int} (hi : i < l.length) (hk : k + 1 ≤ i) (hy : l[k]? = some y) : (shiftL l i (k + 1)).set (k + 1) y = shiftL l i k := by
 apply List.ext_getElem?
 intro j
 by_cases c : k + 1 = j
 ·subst c
  rw [List.getElem?_set_self (by rw [shiftL_len hi hk]; omega), shiftL_at hi (by omega), if_neg (by omega), if_pos hk, Nat.add_sub_cancel, hy]
 ·rw [List.getElem?_set_ne c, shiftL_at hi hk, shiftL_at hi (by omega)]
  by_cases d : j ≤ k
  ·rw [if_pos (by omega), if_pos d]
  ·rw [if_neg (by omega), if_neg d]
theorem shiftL_end {l : List Int} {i : Nat} (hi : i < l.length) : ∃ x, shiftL l i 0 = x :: l.eraseIdx i := by
 cases l with
 | nil => simp at hi
 | cons x l =>
  refine ⟨x, ?_⟩
  unfold shiftL
  rw [List.eraseIdx_eq_take_drop_succ]
  rfl
theorem rTake_at {w0 : World} {H : Heap} {R rb b h : Nat} {l buf : List Int} (hI : RingI R l buf h) {i : Nat} {x : Int} (hx : l[i]? = some x)  : LCalls Tryz.prog w0 104 #[.pointer (some ⟨rb, 0, none⟩), .int .i64 (i : Int)] ((rb, .cells 160 3 [.slice (some ⟨b, 0, none⟩) R R, .int .i64 ((h : Nat) : Int), .int .i64 ((l.length : Nat) : Int)]) :: (b, .cells 3 (R * 1) ((buf).map (Value.int .i64))) :: H) (fun v H' => ∃ buf', RingI R (l.eraseIdx i) (List.set buf' h 0) ((h + 1) % R) ∧ v = .tuple #[.int .i64 x, .bool true] ∧ H' = (rb, .cells 160 3 [.slice (some ⟨b, 0, none⟩) R R, .int .i64 (((h + 1) % R : Nat) : Int), .int .i64 (((l.eraseIdx i).length : Nat) : Int)]) :: (b, .cells 3 (R * 1) ((List.set buf' h 0).map (Value.int .i64))) :: H) := by
 have hil := (List.getElem?_eq_some_iff.1 hx).1
 have hmost := hI.most
 have hroom := hI.room
 have hhd := hI.head
 have hpos := hI.pos
 refine L_enter (l := [.pointer (some ⟨rb, 0, none⟩), .int .i64 (i : Int)]) Tryz.func104 rfl Tryz.ntmps104 rfl rfl ?_
 refine W_sr ?_
 refine W_assign rfl rfl ?_
 refine W_assign rfl rfl ?_
 refine W_nil (W_sr ?_)
 refine W_move rfl rfl ?_
 refine W_move rfl rfl ?_
 refine W_callq (.cons rfl (.cons rfl .nil)) Tryz.call100 rfl (rAt_q (z := (i : Int)) hI zM zM) ?_
 rw [atV_in hx]
 refine W_move rfl rfl ?_
 refine W_extract rfl rfl rfl ?_
 refine W_extract rfl rfl rfl ?_
 refine W_assign rfl rfl ?_
 refine W_assign rfl rfl ?_
 refine W_nil (W_seq (W_sr ?_))
 refine W_move rfl rfl ?_
 refine W_not rfl rfl ?_
 try rw [Bool.not_true]
 refine W_nil ?_
 refine W_condF rfl rfl ?_
 refine W_skip (W_seq (W_sr ?_))
 refine W_move rfl rfl ?_
 refine W_assign rfl rfl ?_
 refine W_nil (W_block ?_)
 refine W_loopC (X := (Nat × List Int)) [(0, _), (6, _)] (fun (x : (Nat × List Int)) => [(8, .int .i64 (x.1 : Int))]) (fun _ => _) (fun (x : (Nat × List Int)) => (rb, .cells 160 3 [.slice (some ⟨b, 0, none⟩) R R, .int .i64 ((h : Nat) : Int), .int .i64 ((l.length : Nat) : Int)]) :: (b, .cells 3 (R * 1) ((x.2).map (Value.int .i64))) :: H) (fun (x : (Nat × List Int)) => x.1 ≤ i ∧ RingI R (shiftL l i x.1) x.2 h) (fun (x : (Nat × List Int)) => x.1) (i, buf) ⟨Nat.le_refl _, by rw [shiftL_start hil]; exact hI⟩ (sub_cons rfl (sub_cons rfl (sub_nil _))) (sub_cons rfl (sub_nil _)) rfl (.refl _) ?_
 rintro ⟨k, bufi⟩ ⟨hki, hIi⟩
 dsimp only at hki hIi ⊢
 have hlen := shiftL_len hil hki
 simp only [List.cons_append, List.nil_append]
 refine W_seq (W_sr ?_)
 refine W_move rfl rfl ?_
 refine W_bin rfl rfl b_gtr rfl ?_
 refine W_nil ?_
 refine W_condPS (p := 0 < (k : Int)) rfl (by simp) (fun q0 => ?_) (fun q0 => ?_)
 ·skip
  refine W_skip (W_seq (W_block ?_))
  obtain ⟨k', rfl⟩ : ∃ k', k = k' + 1 := ⟨k - 1, by omega⟩
  obtain ⟨y, hy⟩ : ∃ y, l[k']? = some y := ⟨_, List.getElem?_eq_getElem zO⟩
  have hbl := hIi.len
  have hby := hIi.at_ k' y (by rw [shiftL_at hil hki, if_pos (by omega)]; exact hy)
  have hp0 : (h + k') % R < R := Nat.mod_lt _ hIi.pos
  have hp1 : (h + (k' + 1)) % R < R := Nat.mod_lt _ hIi.pos
  refine W_anyS [(rb, .cells 160 3 [.slice (some ⟨b, 0, none⟩) R R, .int .i64 ((h : Nat) : Int), .int .i64 ((l.length : Nat) : Int)]), (b, .cells 3 (R * 1) ((bufi).map (Value.int .i64)))] 18 zk ?_
  refine WS_take 0 (l' := #[true, false, false, false, false, false, false, false, false, false, false, false, false, false, false, false, false, false, false]) rfl rfl zK zK zK zK rfl zK (X_move rfl) rfl ?_
  refine WS_take 1 (l' := #[true, true, false, false, false, false, false, false, false, false, false, false, false, false, false, false, false, false, false]) rfl rfl zK zK zK zK rfl zK (X_nilCheck rfl) rfl ?_
  refine WS_take 2 (l' := #[true, true, true, false, false, false, false, false, false, false, false, false, false, false, false, false, false, false, false]) rfl rfl zK zK zK zK rfl zK (X_fieldAddr rfl fld160_0 zd) rfl ?_
  refine WS_take 3 (l' := #[true, true, true, true, false, false, false, false, false, false, false, false, false, false, false, false, false, false, false]) rfl rfl zK zK zK zK rfl zK (X_load (v := .slice (some ⟨b, 0, none⟩) R R) rfl ty24 rfl (Cell.own (b := rb) zM rfl)) rfl ?_
  refine WS_take 4 (l' := #[true, true, true, true, true, false, false, false, false, false, false, false, false, false, false, false, false, false, false]) rfl rfl zK zK zK zK rfl zK (X_move rfl) rfl ?_
  refine WS_take 5 (l' := #[true, true, true, true, true, true, false, false, false, false, false, false, false, false, false, false, false, false, false]) rfl rfl zK zK zK zK rfl zK (X_move rfl) rfl ?_
  refine WS_take 7 (l' := #[true, true, true, true, true, true, false, true, false, false, false, false, false, false, false, false, false, false, false]) rfl rfl zK zK zK zK rfl zK (X_move rfl) rfl ?_
  refine WS_take 8 (l' := #[true, true, true, true, true, true, false, true, true, false, false, false, false, false, false, false, false, false, false]) rfl rfl zK zK zK zK rfl zK (X_nilCheck rfl) rfl ?_
  refine WS_take 9 (l' := #[true, true, true, true, true, true, false, true, true, true, false, false, false, false, false, false, false, false, false]) rfl rfl zK zK zK zK rfl zK (X_fieldAddr rfl fld160_0 zd) rfl ?_
  refine WS_take 10 (l' := #[true, true, true, true, true, true, false, true, true, true, true, false, false, false, false, false, false, false, false]) rfl rfl zK zK zK zK rfl zK (X_load (v := .slice (some ⟨b, 0, none⟩) R R) rfl ty24 rfl (Cell.own (b := rb) zM rfl)) rfl ?_
  refine WS_take 11 (l' := #[true, true, true, true, true, true, false, true, true, true, true, true, false, false, false, false, false, false, false]) rfl rfl zK zK zK zK rfl zK (X_move rfl) rfl ?_
  refine WS_take 12 (l' := #[true, true, true, true, true, true, false, true, true, true, true, true, true, false, false, false, false, false, false]) rfl rfl zK zK zK zK rfl zK (X_move rfl) rfl ?_
  refine WS_take 13 (l' := #[true, true, true, true, true, true, false, true, true, true, true, true, true, true, false, false, false, false, false]) rfl rfl (by decide +kernel) (by decide +kernel) (by decide +kernel) (by decide +kernel) rfl (by decide +kernel) (X_bin rfl rfl (b_sub (m := ((k' : Nat) : Int)) (by rw [i64w (by omega)]; omega))) rfl ?_
  refine WS_one 6 (l' := #[true, true, true, true, true, true, true, true, true, true, true, true, true, true, false, false, false, false, false]) zH rfl zK rfl zK ?_
  refine W_callq (.cons rfl (.cons rfl .nil)) Tryz.call111 rfl (place_q (i := k' + 1) (n := l.length) zM hpos hroom hhd zO) ?_
  refine W_nil ?_
  refine WS_goal ?_
  refine WS_one 14 (l' := #[true, true, true, true, true, true, true, true, true, true, true, true, true, true, true, false, false, false, false]) zH rfl zK rfl zK ?_
  refine W_callq (.cons rfl (.cons rfl .nil)) Tryz.call111 rfl (place_q (i := k') (n := l.length) zM hpos hroom hhd zO) ?_
  refine W_nil ?_
  refine WS_goal ?_
  refine WS_take 15 (l' := #[true, true, true, true, true, true, true, true, true, true, true, true, true, true, true, true, false, false, false]) rfl rfl (by decide +kernel) (by decide +kernel) (by decide +kernel) (by decide +kernel) rfl (by decide +kernel) (X_indexAddr (j := (h + k') % R) rfl rfl ty24 ty3 (by first | rfl | omega) (by first | decide | omega | simp) rfl) rfl ?_
  refine WS_take 16 (l' := #[true, true, true, true, true, true, true, true, true, true, true, true, true, true, true, true, true, false, false]) rfl rfl (by decide +kernel) (by decide +kernel) (by decide +kernel) (by decide +kernel) rfl (by decide +kernel) (X_load (v := .int .i64 y) rfl ty3 rfl (by rw [Nat.mul_one ((h + k') % R)]; exact Cell.own (b := b) zM (by rw [Nat.zero_add, List.getElem?_map, hby]; rfl))) rfl ?_
  refine WS_take 17 (l' := #[true, true, true, true, true, true, true, true, true, true, true, true, true, true, true, true, true, true, false]) rfl rfl (by decide +kernel) (by decide +kernel) (by decide +kernel) (by decide +kernel) rfl (by decide +kernel) (X_indexAddr (j := (h + (k' + 1)) % R) rfl rfl ty24 ty3 (by first | rfl | omega) (by first | decide | omega | simp) rfl) rfl ?_
  refine WS_last (l' := #[true, true, true, true, true, true, true, true, true, true, true, true, true, true, true, true, true, true, true]) zH zK rfl zK ?_
  refine W_store (l' := (bufi.set ((h + (k' + 1)) % R) y).map (Value.int .i64)) rfl rfl ty3 rfl rfl (b := b) zM (by rw [List.length_map, Nat.blt_eq]; omega) (by rw [List.map_set]; congr 1; omega) zU ?_
  refine W_nil ?_
  refine WC_goal ?_
  refine WC_done (.nil _) zK ?_
  refine W_blk ?_
  refine W_region ?_
  refine W_move rfl rfl ?_
  refine W_bin rfl rfl (b_sub (m := ((k' : Nat) : Int)) (by rw [i64w (by omega)]; omega)) rfl ?_
  refine W_assign rfl rfl ?_
  refine W_nil ?_
  refine W_again (k', bufi.set ((h + (k' + 1)) % R) y) ⟨by show k' ≤ i; omega, by show RingI R (shiftL l i k') _ _; rw [← shiftL_step hil hki hy]; exact hIi.move (by omega)⟩ (by show k' < k' + 1; omega) (sub_cons rfl (sub_cons rfl (sub_cons rfl (sub_nil _)))) rfl (.refl _)
 ·skip
  refine W_exit rfl ?_
  refine W_sr ?_
  obtain rfl : k = 0 := by omega
  refine W_move rfl rfl ?_
  obtain ⟨x0, hx0⟩ := shiftL_end hil
  rw [hx0] at hIi
  have hlx : l.length = (x0 :: l.eraseIdx i).length := by rw [← hx0, shiftL_len hil (Nat.zero_le _)]
  rw [hlx]
  refine W_call (.cons rfl .nil) Tryz.call91 rfl (rPop_at (H := H) hIi) ?_
  rintro v H' ⟨rfl, rfl⟩
  refine W_nil (W_sr ?_)
  refine W_move rfl rfl ?_
  refine W_assign rfl rfl ?_
  refine W_assign rfl rfl ?_
  refine W_nil ?_
  refine W_ret2m Tryz.results104 rfl rfl (.nil _) (.refl _) ?_
  exact ⟨bufi, hIi.pop, rfl, rfl⟩
theorem rTake_L {w0 : World} {H HB : Heap} {R rb i : Nat} {x : Int} {l : List Int} (hR : RingH R rb l HB) (hx : l[i]? = some x) : LCalls Tryz.prog w0 104 #[.pointer (some ⟨rb, 0, none⟩), .int .i64 (i : Int)] (HB ++ H) (fun v H' => ∃ HB', RingH R rb (l.eraseIdx i) HB' ∧ v = .tuple #[.int .i64 x, .bool true] ∧ H' = HB' ++ H) := by
 cases hR with
 | mk hI =>
  refine (rTake_at (H := H) hI hx).mono ?_
  rintro v H' ⟨buf', hI', rfl, rfl⟩
  exact ⟨_, .mk hI', rfl, rfl⟩
theorem rgall_iter {w0 : World} {H : Heap} {lp b1 : Nat} {R rb b h : Nat} {l buf : List Int} (hI : RingI R l buf h) (J : Nat → Heap → Prop)
  (hround : ∀ i x Hi, l[i]? = some x → J i Hi → RoundC Tryz.prog w0 lp #[.int .i64 x] ((b1, .cells 127 1 [.pointer (some ⟨rb, 0, none⟩)]) :: (rb, .cells 160 3 [.slice (some ⟨b, 0, none⟩) R R, .int .i64 ((h : Nat) : Int), .int .i64 ((l.length : Nat) : Int)]) :: (b, .cells 3 (R * 1) ((buf).map (Value.int .i64))) :: Hi) (fun v H' => ∃ Hi', HSub H' ((b1, .cells 127 1 [.pointer (some ⟨rb, 0, none⟩)]) :: (rb, .cells 160 3 [.slice (some ⟨b, 0, none⟩) R R, .int .i64 ((h : Nat) : Int), .int .i64 ((l.length : Nat) : Int)]) :: (b, .cells 3 (R * 1) ((buf).map (Value.int .i64))) :: Hi') ∧ v = .bool true ∧ J (i + 1) Hi')) (hJ : J 0 H) :
  LCalls Tryz.prog w0 152 #[.func (.yield lp) #[] #[], .pointer (some ⟨b1, 0, none⟩)] ((b1, .cells 127 1 [.pointer (some ⟨rb, 0, none⟩)]) :: (rb, .cells 160 3 [.slice (some ⟨b, 0, none⟩) R R, .int .i64 ((h : Nat) : Int), .int .i64 ((l.length : Nat) : Int)]) :: (b, .cells 3 (R * 1) ((buf).map (Value.int .i64))) :: H) (fun _ H' => ∃ Hi', HSub H' ((b1, .cells 127 1 [.pointer (some ⟨rb, 0, none⟩)]) :: (rb, .cells 160 3 [.slice (some ⟨b, 0, none⟩) R R, .int .i64 ((h : Nat) : Int), .int .i64 ((l.length : Nat) : Int)]) :: (b, .cells 3 (R * 1) ((buf).map (Value.int .i64))) :: Hi') ∧ J l.length Hi') := by
 have hmost := hI.most
 have hroom := hI.room
 refine L_enter (l := [.func (.yield lp) #[] #[], .pointer (some ⟨b1, 0, none⟩)]) Tryz.func152 rfl Tryz.ntmps152 rfl rfl ?_
 refine W_sr ?_
 refine W_load (v := .pointer (some ⟨rb, 0, none⟩)) rfl ty127 rfl (Cell.own (b := b1) zM rfl) rfl ?_
 refine W_callq (.cons rfl .nil) Tryz.call90 rfl (rLen_q (n := l.length) (h := h) (R := R) (b := b) zM) ?_
 refine W_move rfl rfl ?_
 refine W_nil (W_block ?_)
 refine W_loopC (X := (Nat × Heap)) [(0, _), (1, _), (5, _)] (fun (x : (Nat × Heap)) => [(6, .int .i64 (x.1 : Int))]) (fun _ => _) (fun (x : (Nat × Heap)) => (b1, .cells 127 1 [.pointer (some ⟨rb, 0, none⟩)]) :: (rb, .cells 160 3 [.slice (some ⟨b, 0, none⟩) R R, .int .i64 ((h : Nat) : Int), .int .i64 ((l.length : Nat) : Int)]) :: (b, .cells 3 (R * 1) ((buf).map (Value.int .i64))) :: x.2) (fun (x : (Nat × Heap)) => x.1 ≤ l.length ∧ J x.1 x.2) (fun (x : (Nat × Heap)) => l.length - x.1) (0, H) ⟨Nat.zero_le _, hJ⟩ (sub_cons rfl (sub_cons rfl (sub_cons rfl (sub_nil _)))) (sub_cons rfl (sub_nil _)) rfl (.refl _) ?_
 rintro ⟨i, Hi⟩ ⟨hi, hJi⟩
 dsimp only at hi hJi ⊢
 simp only [List.cons_append, List.nil_append]
 refine W_sr ?_
 refine W_bin rfl rfl b_lss rfl ?_
 refine W_nil (W_seq ?_)
 refine W_condPS (p := (i : Int) < (l.length : Int)) rfl (by simp) (fun q0 => ?_) (fun q0 => ?_)
 ·skip
  refine W_skip (W_seq ?_)
  refine W_block (W_sr ?_)
  refine W_move rfl rfl ?_
  refine W_assign rfl rfl ?_
  refine W_nil (W_seq ?_)
  obtain ⟨x, hx⟩ : ∃ x, l[i]? = some x := ⟨_, List.getElem?_eq_getElem zO⟩
  have hbx := hI.at_ i x hx
  have hbl := hI.len
  have hpl : (h + i) % R < R := Nat.mod_lt _ hI.pos
  refine W_anyC [(b1, .cells 127 1 [.pointer (some ⟨rb, 0, none⟩)]), (rb, .cells 160 3 [.slice (some ⟨b, 0, none⟩) R R, .int .i64 ((h : Nat) : Int), .int .i64 ((l.length : Nat) : Int)]), (b, .cells 3 (R * 1) ((buf).map (Value.int .i64)))] zk ?_
  refine WC_take 0 (l' := #[true, false, false, false, false, false, false, false, false, false, false, false]) rfl zK zK zK rfl zK (X_move rfl) rfl ?_
  refine WC_take 1 (l' := #[true, true, false, false, false, false, false, false, false, false, false, false]) rfl zK zK zK rfl zK (X_load (v := .pointer (some ⟨rb, 0, none⟩)) rfl ty127 rfl (Cell.own (b := b1) zM rfl)) rfl ?_
  refine WC_take 2 (l' := #[true, true, true, false, false, false, false, false, false, false, false, false]) rfl zK zK zK rfl zK (X_nilCheck rfl) rfl ?_
  refine WC_take 3 (l' := #[true, true, true, true, false, false, false, false, false, false, false, false]) rfl zK zK zK rfl zK (X_fieldAddr rfl fld160_0 zd) rfl ?_
  refine WC_take 4 (l' := #[true, true, true, true, true, false, false, false, false, false, false, false]) rfl zK zK zK rfl zK (X_load (v := .slice (some ⟨b, 0, none⟩) R R) rfl ty24 rfl (Cell.own (b := rb) zM rfl)) rfl ?_
  refine WC_take 5 (l' := #[true, true, true, true, true, true, false, false, false, false, false, false]) rfl zK zK zK rfl zK (X_load (v := .pointer (some ⟨rb, 0, none⟩)) rfl ty127 rfl (Cell.own (b := b1) zM rfl)) rfl ?_
  refine WC_take 6 (l' := #[true, true, true, true, true, true, true, false, false, false, false, false]) rfl zK zK zK rfl zK (X_move rfl) rfl ?_
  refine WC_one 7 (l' := #[true, true, true, true, true, true, true, true, false, false, false, false]) zH zK rfl zK ?_
  refine W_callq (.cons rfl (.cons rfl .nil)) Tryz.call111 rfl (place_q (i := i) (n := l.length) zM hI.pos hroom hI.head zO) ?_
  refine W_nil ?_
  refine WC_goal ?_
  refine WC_take 8 (l' := #[true, true, true, true, true, true, true, true, true, false, false, false]) rfl (by decide +kernel) (by decide +kernel) (by decide +kernel) rfl (by decide +kernel) (X_indexAddr (j := (h + i) % R) rfl rfl ty24 ty3 (by first | rfl | omega) (by first | decide | omega | simp) rfl) rfl ?_
  refine WC_take 9 (l' := #[true, true, true, true, true, true, true, true, true, true, false, false]) rfl (by decide +kernel) (by decide +kernel) (by decide +kernel) rfl (by decide +kernel) (X_load (v := .int .i64 x) rfl ty3 rfl (by rw [Nat.mul_one ((h + i) % R)]; exact Cell.own (b := b) zM (by rw [Nat.zero_add, List.getElem?_map, hbx]; rfl))) rfl ?_
  refine WC_one 10 (l' := #[true, true, true, true, true, true, true, true, true, true, true, false]) zH zK rfl zK ?_
  refine W_yield rfl (.cons rfl .nil) rfl (hround i x Hi hx hJi) ?_
  rintro v H' ⟨Hi', hsub, rfl, hJ'⟩
  refine W_hsub hsub ?_
  refine W_nil ?_
  refine WC_goal ?_
  refine WC_take 11 (l' := #[true, true, true, true, true, true, true, true, true, true, true, true]) rfl zK zK zK rfl zK (X_not rfl) rfl ?_
  refine WC_done zH zK ?_
  refine W_condF rfl rfl ?_
  refine W_skip ?_
  refine W_blk ?_
  refine W_region ?_
  refine W_bin rfl rfl (b_add (m := ((i + 1 : Nat) : Int)) (by rw [i64w (by omega)]; omega)) rfl ?_
  refine W_move rfl rfl ?_
  refine W_nil ?_
  refine W_again (i + 1, Hi') ⟨by show i + 1 ≤ l.length; omega, hJ'⟩ (by show l.length - (i + 1) < l.length - i; omega) (sub_cons rfl (sub_cons rfl (sub_cons rfl (sub_cons rfl (sub_nil _))))) rfl (.refl _)
 ·skip
  refine W_exit rfl ?_
  refine W_end0m Tryz.results152 (.nil _) (.refl _) ?_
  obtain rfl : i = l.length := by omega
  exact ⟨Hi, .refl _, hJi⟩
theorem rgall_L {w0 : World} {H : Heap} {ad : Option Addr}  : LCalls Tryz.prog w0 139 #[.pointer ad] (H) (fun v H' => ∃ b1, v = .func (.func 152) #[] #[.pointer (some ⟨b1, 0, none⟩)] ∧ H' = (b1, .cells 127 1 [.pointer ad]) :: H) := by
 refine L_enter (l := [.pointer ad]) Tryz.func139 rfl Tryz.ntmps139 rfl rfl ?_
 refine W_sr ?_
 refine W_box rfl rfl rfl (fun b1 => ?_)
 refine W_assign rfl rfl ?_
 refine W_nil (W_sr ?_)
 refine W_makeFunc .nil (.cons rfl .nil) rfl ?_
 refine W_assign rfl rfl ?_
 refine W_nil ?_
 refine W_ret1m Tryz.results139 rfl (.nil _) (.refl _) ?_
 exact ⟨b1, rfl, rfl⟩
theorem rList_at {w0 : World} {H : Heap} {R rb b h : Nat} {l buf : List Int} (hI : RingI R l buf h)  : LCalls Tryz.prog w0 126 #[.pointer (some ⟨rb, 0, none⟩)] ((rb, .cells 160 3 [.slice (some ⟨b, 0, none⟩) R R, .int .i64 ((h : Nat) : Int), .int .i64 ((l.length : Nat) : Int)]) :: (b, .cells 3 (R * 1) ((buf).map (Value.int .i64))) :: H) (fun v H' => ∃ sv XB, v = sv ∧ OwnS 3 1 sv l.length (l.map (Value.int .i64)) XB ∧ H' = XB ++ ((rb, .cells 160 3 [.slice (some ⟨b, 0, none⟩) R R, .int .i64 ((h : Nat) : Int), .int .i64 ((l.length : Nat) : Int)]) :: (b, .cells 3 (R * 1) ((buf).map (Value.int .i64))) :: H)) := by
 have hmost := hI.most
 have hroom := hI.room
 refine L_enter (l := [.pointer (some ⟨rb, 0, none⟩)]) Tryz.func126 rfl Tryz.ntmps126 rfl rfl ?_
 refine W_sr ?_
 refine W_assign rfl rfl ?_
 refine W_nil (W_sr ?_)
 refine W_alloc (l := [.slice none 0 0]) ty24 rfl rfl (fun b3 => ?_)
 refine W_nil (W_seq (W_sr ?_))
 refine W_move rfl rfl ?_
 refine W_call (.cons rfl .nil) Tryz.call139 rfl (rgall_L) ?_
 rintro v H' ⟨b1, rfl, rfl⟩
 refine W_nil (W_block ?_)
 refine W_rangeFunc rfl Tryz.call152 ?_
 intro lp D r hst hpd hps hasg hbody hA
 have hr := loop_ready hst hpd
 show LCalls _ _ _ #[_, _] _ _
 refine ((rgall_iter (b1 := b1) (H := (lp, .obj (.loop r)) :: (D, .obj (.deferred (some []))) :: (b3, .cells 24 1 [.slice none 0 0]) :: H) hI (fun i Hi => ∃ xv XB, OwnS 3 1 xv i ((l.take i).map (Value.int .i64)) XB ∧ Hi = (lp, .obj (.loop r)) :: (D, .obj (.deferred (some []))) :: (b3, .cells 24 1 [xv]) :: (XB ++ H)) ?_ ⟨_, [], .nil, rfl⟩).hsub zH).mono ?_
 ·intro i z Hi hz hJ
  obtain ⟨xv, XB, hX, rfl⟩ := hJ
  have hil := (List.getElem?_eq_some_iff.1 hz).1
  refine round_intro hst hpd hA hps rfl hasg rfl rfl rfl zT ?_
  refine W_region ?_
  refine W_assign rfl rfl ?_
  refine W_nil ?_
  refine W_begin hst hpd zT hbody ?_
  refine W_block ?_
  refine W_region ?_
  refine W_load (v := xv) rfl ty24 rfl (Cell.own (b := b3) zM rfl) rfl ?_
  refine W_move rfl rfl ?_
  refine W_buildSlice (l := [.int .i64 z]) ty24 ty3 (.cons rfl rfl rfl rfl rfl .nil) rfl rfl rfl rfl rfl rfl rfl (fun b10 => ?_)
  refine W_append (news := [.int .i64 z]) (m := 1) (HB := XB) (H0 := (b10, .cells 3 1 [.int .i64 z]) :: (b1, .cells 127 1 [.pointer (some ⟨rb, 0, none⟩)]) :: (rb, .cells 160 3 [.slice (some ⟨b, 0, none⟩) R R, .int .i64 ((h : Nat) : Int), .int .i64 ((l.length : Nat) : Int)]) :: (b, .cells 3 (R * 1) ((buf).map (Value.int .i64))) :: (lp, .obj (.loop (Loop.at r .busy none))) :: (D, .obj (.deferred (some []))) :: (b3, .cells 24 1 [xv]) :: H) rfl rfl ty24 ty3 rfl (by decide) hX rfl (Holds.own List.mem_cons_self) rfl (by simp only [maxLen]; omega) (by omega) zH rfl (fun v' HB' hO' => ?_)
  refine W_store (l' := [v']) rfl rfl ty24 (by obtain ⟨a0, c0', e0, _⟩ := hO'.shape; rw [e0]; rfl) rfl (b := b3) zM rfl rfl zU ?_
  refine W_nil ?_
  refine W_blk ?_
  refine W_endround zT ?_
  rw [hr]
  exact ⟨(lp, .obj (.loop r)) :: (D, .obj (.deferred (some []))) :: (b3, .cells 24 1 [v']) :: (HB' ++ H), zH, rfl, v', HB', by rw [List.take_add_one, hz, List.map_append]; exact hO', rfl⟩
 ·intro _ H' hp
  obtain ⟨Hi', hs, xv, XB, hX, rfl⟩ := hp
  rw [List.take_length] at hX
  refine ⟨.ready, none, (b1, .cells 127 1 [.pointer (some ⟨rb, 0, none⟩)]) :: (rb, .cells 160 3 [.slice (some ⟨b, 0, none⟩) R R, .int .i64 ((h : Nat) : Int), .int .i64 ((l.length : Nat) : Int)]) :: (b, .cells 3 (R * 1) ((buf).map (Value.int .i64))) :: (D, .obj (.deferred (some []))) :: (b3, .cells 24 1 [xv]) :: (XB ++ H), by rw [hr]; exact hs.trans zH, by decide, ?_⟩
  show W _ _ _ _ _ _ _ _ _
  refine W_blk ?_
  refine W_sr ?_
  refine W_load (v := xv) rfl ty24 rfl (Cell.own (b := b3) zM rfl) rfl ?_
  refine W_assign rfl rfl ?_
  refine W_nil ?_
  refine W_ret1m (H2 := XB ++ ((rb, .cells 160 3 [.slice (some ⟨b, 0, none⟩) R R, .int .i64 ((h : Nat) : Int), .int .i64 ((l.length : Nat) : Int)]) :: (b, .cells 3 (R * 1) ((buf).map (Value.int .i64))) :: H)) Tryz.results126 rfl (.cons zT (.nil _)) zH ?_
  exact ⟨xv, XB, rfl, hX, rfl⟩
theorem rList_L {w0 : World} {H HB : Heap} {R rb : Nat} {l : List Int} (hR : RingH R rb l HB) : LCalls Tryz.prog w0 126 #[.pointer (some ⟨rb, 0, none⟩)] (HB ++ H) (fun v H' => ∃ XB, OwnS 3 1 v l.length (l.map (Value.int .i64)) XB ∧ H' = XB ++ (HB ++ H)) := by
 cases hR with
 | mk hI =>
  refine (rList_at (H := H) hI).mono ?_
  rintro v H' ⟨sv, XB, rfl, hX, rfl⟩
  exact ⟨XB, hX, rfl⟩
def del1 (l : List Int) (id : Int) : List Int := l.filter (fun x => decide (x ≠ id))
theorem del1_snoc {l : List Int} {id x : Int} {j : Nat} (h : l[j]? = some x) : del1 (l.take (j + 1)) id = del1 (l.take j) id ++ (if x = id then [] else [x]) := by
 unfold del1
 rw [takeAt h, List.filter_append]
 congr 1
 by_cases e : x = id
 ·rw [if_pos e, List.filter_cons_of_neg (by simp [e])]; rfl
 ·rw [if_neg e, List.filter_cons_of_pos (by simp [e])]; rfl
theorem del1_out {l : List Int} {id : Int} (h : id ∉ l) : del1 l id = l := by
 unfold del1
 rw [List.filter_eq_self]
 intro x hx
 exact decide_eq_true (fun e => h (e ▸ hx))
theorem del1_le (l : List Int) (id : Int) : (del1 l id).length ≤ l.length := List.length_filter_le _ _
theorem eqc_q {w0 : World} {H : Heap} {bd : Nat} {id i : Int} (hb : (bd, .cells 3 1 [.int .i64 id]) ∈ H)  : PureAt Tryz.prog w0 H 135 [.int .i64 i, .pointer (some ⟨bd, 0, none⟩)] (.bool (decide (i = id))) := by
 refine L_enter Tryz.func135 rfl Tryz.ntmps135 rfl rfl ?_
 refine W_sr ?_
 refine W_assign rfl rfl ?_
 refine W_nil (W_sr ?_)
 refine W_move rfl rfl ?_
 refine W_load (v := .int .i64 id) rfl ty3 rfl (Cell.own hb rfl) rfl ?_
 refine W_bin rfl rfl b_eql rfl ?_
 refine W_assign rfl rfl ?_
 refine W_nil ?_
 refine W_ret1m (H2 := H) Tryz.results135 rfl (.nil _) zH ?_
 exact ⟨rfl, rfl⟩
theorem index_L {w0 : World} {H : Heap} {l : List Int} {id : Int} {bd cap : Nat} {ad : Option Addr} (hl : l.length ≤ 4611686018427387904) (hbd : (bd, .cells 3 1 [.int .i64 id]) ∈ H) (hrow : Holds w0 H ad (l.map (Value.int .i64)))  : LCalls Tryz.prog w0 151 #[.slice ad l.length cap, .func (.func 135) #[] #[.pointer (some ⟨bd, 0, none⟩)]] (H) (fun v H' => ∃ z : Int, v = .int .i64 z ∧ ((∃ i : Nat, z = i ∧ l[i]? = some id ∧ id ∉ l.take i) ∨ (z = -1 ∧ id ∉ l)) ∧ H' = H) := by
 refine L_enter (l := [.slice ad l.length cap, .func (.func 135) #[] #[.pointer (some ⟨bd, 0, none⟩)]]) Tryz.func151 rfl Tryz.ntmps151 rfl rfl ?_
 refine W_sr ?_
 refine W_assign rfl rfl ?_
 refine W_nil (W_seq (W_sr ?_))
 refine W_move rfl rfl ?_
 refine W_len rfl ty24 rfl rfl ?_
 refine W_move rfl rfl ?_
 refine W_nil (W_block ?_)
 refine W_loopC (X := Nat) [(0, _), (1, _), (7, _)] (fun (i : Nat) => [(8, .int .i64 (i : Int))]) (fun _ => _) (fun (i : Nat) => H) (fun (i : Nat) => i ≤ l.length ∧ id ∉ l.take i) (fun (i : Nat) => l.length - i) 0 ⟨Nat.zero_le _, by simp⟩ (sub_cons rfl (sub_cons rfl (sub_cons rfl (sub_nil _)))) (sub_cons rfl (sub_nil _)) rfl zH ?_
 rintro i ⟨hi, hn⟩
 simp only [List.cons_append, List.nil_append]
 refine W_sr ?_
 refine W_bin rfl rfl b_lss rfl ?_
 refine W_nil (W_seq ?_)
 refine W_condPS (p := (i : Int) < (l.length : Int)) rfl (by simp) (fun q0 => ?_) (fun q0 => ?_)
 ·skip
  refine W_skip (W_seq ?_)
  refine W_block (W_sr ?_)
  refine W_move rfl rfl ?_
  refine W_assign rfl rfl ?_
  refine W_nil (W_sr ?_)
  obtain ⟨x, hx⟩ : ∃ x, l[i]? = some x := ⟨_, List.getElem?_eq_getElem zO⟩
  obtain ⟨q0, p0, rfl, hc⟩ := hrow.at (i := i) (v := .int .i64 x) (by rw [List.getElem?_map, hx]; rfl)
  refine W_move rfl rfl ?_
  refine W_move rfl rfl ?_
  refine W_move rfl rfl ?_
  refine W_indexAddr (j := i) rfl rfl ty24 ty3 rfl zO rfl rfl ?_
  refine W_load (v := .int .i64 x) rfl ty3 rfl (by rw [Nat.mul_one (i)]; exact hc) rfl ?_
  refine W_callqv (fa := []) (ca := [.pointer (some ⟨bd, 0, none⟩)]) rfl (.cons rfl .nil) rfl Tryz.call135 rfl (eqc_q (bd := bd) (id := id) hbd) ?_
  refine W_nil ?_
  refine W_condPS (p := x = id) rfl (by simp) (fun q1 => ?_) (fun q1 => ?_)
  ·skip
   refine W_sr ?_
   refine W_move rfl rfl ?_
   refine W_assign rfl rfl ?_
   refine W_nil ?_
   refine W_ret1m Tryz.results151 rfl (.nil _) (.refl _) ?_
   subst q1
   exact ⟨i, rfl, .inl ⟨i, rfl, hx, hn⟩, rfl⟩
  ·skip
   refine W_skip ?_
   refine W_blk ?_
   refine W_region ?_
   refine W_bin rfl rfl (b_add (m := ((i + 1 : Nat) : Int)) (by rw [i64w (by omega)]; omega)) rfl ?_
   refine W_move rfl rfl ?_
   refine W_nil ?_
   refine W_again (i + 1) ⟨by omega, by rw [takeAt hx, List.mem_append]; exact fun h => h.elim hn (fun h => q1 (List.mem_singleton.1 h).symm)⟩ (by omega) (sub_cons rfl (sub_cons rfl (sub_cons rfl (sub_cons rfl (sub_nil _))))) rfl zH
 ·skip
  refine W_exit rfl ?_
  refine W_sr ?_
  refine W_assign rfl rfl ?_
  refine W_nil ?_
  refine W_ret1m Tryz.results151 rfl (.nil _) (.refl _) ?_
  obtain rfl : i = l.length := by omega
  exact ⟨-1, rfl, .inr ⟨rfl, by rwa [List.take_length] at hn⟩, rfl⟩
theorem take_set_at {d : List Int} {i : Nat} {x : Int} (h : i < d.length) : (d.set i x).take (i + 1) = d.take i ++ [x] := by
 rw [takeAt (l := d.set i x) (i := i) (x := x) (by rw [List.getElem?_set_self h]), List.take_set_of_le (Nat.le_refl i)]
theorem splice_take {l vs : List Value} {i : Nat} (h : i ≤ l.length) : (spliceL l i vs).take i = l.take i := by
 unfold spliceL
 rw [List.append_assoc, List.take_append_of_le_length (by rw [List.length_take]; omega), List.take_take, Nat.min_self]
theorem delete_L {w0 : World} {H : Heap} {l : List Int} {id : Int} {b bd tot cap : Nat} (hl : l.length ≤ 4611686018427387904) (hcap : l.length ≤ cap) (hbd : (bd, .cells 3 1 [.int .i64 id]) ∈ H)  : LCalls Tryz.prog w0 134 #[.slice (some ⟨b, 0, none⟩) l.length cap, .func (.func 135) #[] #[.pointer (some ⟨bd, 0, none⟩)]] ((b, .cells 3 tot ((l).map (Value.int .i64))) :: H) (fun v H' => v = .slice (some ⟨b, 0, none⟩) (del1 l id).length cap ∧ H' = (b, .cells 3 tot ((del1 l id).map (Value.int .i64))) :: H) := by
 refine L_enter (l := [.slice (some ⟨b, 0, none⟩) l.length cap, .func (.func 135) #[] #[.pointer (some ⟨bd, 0, none⟩)]]) Tryz.func134 rfl Tryz.ntmps134 rfl rfl ?_
 refine W_sr ?_
 refine W_assign rfl rfl ?_
 refine W_nil (W_sr ?_)
 refine W_move rfl rfl ?_
 refine W_move rfl rfl ?_
 refine W_call (.cons rfl (.cons rfl .nil)) Tryz.call151 rfl ((index_L (l := l) (bd := bd) (id := id) hl (List.mem_cons_of_mem _ hbd) (Holds.own (b := b) zM)).hsub (.refl _)) ?_
 rintro v H' ⟨z, rfl, hz, hH⟩
 subst H'
 rcases hz with ⟨i0, rfl, hi0, hn0⟩ | ⟨rfl, hn0⟩
 ·skip
  have hil : i0 + 1 ≤ l.length := (List.getElem?_eq_some_iff.1 hi0).1
  refine W_assign rfl rfl ?_
  refine W_nil (W_seq (W_sr ?_))
  refine W_move rfl rfl ?_
  refine W_bin rfl rfl b_eql rfl ?_
  refine W_nil ?_
  refine W_condF rfl (decide_eq_false zO) ?_
  refine W_skip (W_seq (W_sr ?_))
  refine W_move rfl rfl ?_
  refine W_bin rfl rfl (b_add (m := ((i0 + 1 : Nat) : Int)) (by rw [i64w (by omega)]; omega)) rfl ?_
  refine W_assign rfl rfl ?_
  refine W_nil (W_block ?_)
  refine W_loopC (X := (Nat × Nat × List Int)) [(0, _), (1, _)] (fun (x : (Nat × Nat × List Int)) => [(5, .int .i64 (x.1 : Int)), (6, .int .i64 (x.2.1 : Int))]) (fun _ => _) (fun (x : (Nat × Nat × List Int)) => (b, .cells 3 tot ((x.2.2).map (Value.int .i64))) :: H) (fun (x : (Nat × Nat × List Int)) => x.2.2.length = l.length ∧ x.2.1 ≤ l.length ∧ x.1 < x.2.1 ∧ x.2.2.take x.1 = del1 (l.take x.2.1) id ∧ x.2.2.drop x.2.1 = l.drop x.2.1) (fun (x : (Nat × Nat × List Int)) => l.length - x.2.1) (i0, i0 + 1, l) ⟨rfl, hil, Nat.lt_succ_self _, by rw [del1_snoc hi0, if_pos rfl, List.append_nil, del1_out hn0], rfl⟩ (sub_cons rfl (sub_cons rfl (sub_nil _))) (sub_cons rfl (sub_cons rfl (sub_nil _))) rfl zH ?_
  rintro ⟨i, j, d⟩ ⟨hdl, hj, hij, hdt, hdd⟩
  dsimp only at hdl hj hij hdt hdd ⊢
  simp only [List.cons_append, List.nil_append]
  refine W_seq (W_sr ?_)
  refine W_move rfl rfl ?_
  refine W_move rfl rfl ?_
  refine W_len rfl ty24 rfl rfl ?_
  refine W_bin rfl rfl b_lss rfl ?_
  refine W_nil ?_
  refine W_condPS (p := (j : Int) < (l.length : Int)) rfl (by simp) (fun q0 => ?_) (fun q0 => ?_)
  ·skip
   refine W_skip (W_seq ?_)
   refine W_block (W_sr ?_)
   obtain ⟨x, hx⟩ : ∃ x, l[j]? = some x := ⟨_, List.getElem?_eq_getElem zO⟩
   have hdx : d[j]? = some x := by
    have h := congrArg (fun q => q[0]?) hdd
    simpa [hx] using h
   refine W_move rfl rfl ?_
   refine W_move rfl rfl ?_
   refine W_indexAddr (j := j) rfl rfl ty24 ty3 rfl zO (at_ := j) zO rfl ?_
   refine W_load (v := .int .i64 x) rfl ty3 rfl (Cell.own (b := b) zM (by rw [List.getElem?_map, hdx]; rfl)) rfl ?_
   refine W_assign rfl rfl ?_
   refine W_nil (W_sr ?_)
   refine W_move rfl rfl ?_
   refine W_move rfl rfl ?_
   refine W_callqv (fa := []) (ca := [.pointer (some ⟨bd, 0, none⟩)]) rfl (.cons rfl .nil) rfl Tryz.call135 rfl (eqc_q (bd := bd) (id := id) (List.mem_cons_of_mem _ hbd)) ?_
   refine W_not rfl rfl ?_
   refine W_nil ?_
   refine W_condPS (p := ¬ x = id) rfl (by simp) (fun q1 => ?_) (fun q1 => ?_)
   ·skip
    refine W_sr ?_
    refine W_move rfl rfl ?_
    refine W_move rfl rfl ?_
    refine W_move rfl rfl ?_
    refine W_indexAddr (j := i) rfl rfl ty24 ty3 rfl zO (at_ := i) zO rfl ?_
    refine W_store (l' := (d.set i x).map (Value.int .i64)) rfl rfl ty3 rfl rfl (b := b) zM (by rw [Nat.blt_eq, List.length_map]; omega) (by rw [List.map_set]) zU ?_
    refine W_nil ?_
    refine W_region ?_
    refine W_move rfl rfl ?_
    refine W_bin rfl rfl (b_add (m := ((i + 1 : Nat) : Int)) (by rw [i64w (by omega)]; omega)) rfl ?_
    refine W_assign rfl rfl ?_
    refine W_nil ?_
    refine W_blk ?_
    refine W_region ?_
    refine W_move rfl rfl ?_
    refine W_bin rfl rfl (b_add (m := ((j + 1 : Nat) : Int)) (by rw [i64w (by omega)]; omega)) rfl ?_
    refine W_assign rfl rfl ?_
    refine W_nil ?_
    refine W_again (i + 1, j + 1, d.set i x) ⟨by show (d.set i x).length = _; rw [List.length_set, hdl], by show j + 1 ≤ l.length; omega, by show i + 1 < j + 1; omega, by show (d.set i x).take (i + 1) = _; rw [take_set_at (by omega), hdt, del1_snoc hx, if_neg q1], by show (d.set i x).drop (j + 1) = _; rw [List.drop_set_of_lt (by omega), ← List.drop_drop, hdd, List.drop_drop]⟩ (by show l.length - (j + 1) < l.length - j; omega) (sub_cons rfl (sub_cons rfl (sub_cons rfl (sub_cons rfl (sub_nil _))))) rfl zH
   ·skip
    refine W_skip ?_
    refine W_blk ?_
    refine W_region ?_
    refine W_move rfl rfl ?_
    refine W_bin rfl rfl (b_add (m := ((j + 1 : Nat) : Int)) (by rw [i64w (by omega)]; omega)) rfl ?_
    refine W_assign rfl rfl ?_
    refine W_nil ?_
    refine W_again (i, j + 1, d) ⟨hdl, by show j + 1 ≤ l.length; omega, by show i < j + 1; omega, by show d.take i = _; rw [hdt, del1_snoc hx, if_pos (Classical.not_not.1 q1), List.append_nil], by show d.drop (j + 1) = _; rw [← List.drop_drop, hdd, List.drop_drop]⟩ (by show l.length - (j + 1) < l.length - j; omega) (sub_cons rfl (sub_cons rfl (sub_cons rfl (sub_cons rfl (sub_nil _))))) rfl zH
  ·skip
   refine W_exit rfl ?_
   refine W_sr ?_
   refine W_move rfl rfl ?_
   refine W_move rfl rfl ?_
   refine W_slice (l := i) (hh := l.length) rfl ty24 ty3 ⟨_, rfl⟩ rfl zO hcap rfl (fun o1 ho1 => ?_)
   obtain rfl : o1 = i := by have := ho1 zO; omega
   refine W_clear (l' := spliceL (d.map (Value.int .i64)) o1 (List.replicate (l.length - o1) (.int .i64 0))) rfl ty24 ty3 rfl (by omega) (b := b) zM (by rw [List.length_map]; omega) rfl zU ?_
   refine W_nil (W_sr ?_)
   refine W_move rfl rfl ?_
   refine W_move rfl rfl ?_
   refine W_slice0 (hh := o1) rfl ty24 ty3 rfl ⟨_, rfl⟩ zO rfl ?_
   obtain rfl : j = l.length := by omega
   rw [List.take_length] at hdt
   have hol : o1 = (del1 l id).length := by rw [← hdt, List.length_take]; omega
   have hcut : (spliceL (d.map (Value.int .i64)) o1 (List.replicate (l.length - o1) (.int .i64 0))).take o1 = (del1 l id).map (Value.int .i64) := by rw [splice_take (by rw [List.length_map]; omega), ← List.map_take, hdt]
   refine W_assign rfl rfl ?_
   refine W_nil ?_
   refine W_ret1m (H2 := (b, .cells 3 tot ((del1 l id).map (Value.int .i64))) :: H) Tryz.results134 rfl (.nil _) (by rw [← hcut]; exact HSub.cut) ?_
   exact ⟨by rw [hol], rfl⟩
 ·skip
  refine W_assign rfl rfl ?_
  refine W_nil (W_seq (W_sr ?_))
  refine W_move rfl rfl ?_
  refine W_bin rfl rfl b_eql rfl ?_
  refine W_nil ?_
  refine W_condT rfl rfl ?_
  refine W_sr ?_
  refine W_move rfl rfl ?_
  refine W_assign rfl rfl ?_
  refine W_nil ?_
  refine W_ret1m (H2 := (b, .cells 3 tot ((l).map (Value.int .i64))) :: H) Tryz.results134 rfl (.nil _) (.refl _) ?_
  exact ⟨by rw [del1_out hn0], by rw [del1_out hn0]⟩
theorem keyI : KeyKind Tryz.prog 3 (Value.int .i64) := intKeys ty3.und
def zEnt : Value := .agg #[.int .i64 0, .int .i64 0, .int .u64 0, .int .u64 0, .int .i64 0]
theorem zEz (w : World) : (zeroValue 169).run Tryz.prog w = .ok zEnt w := ty169.zero w
theorem Find_q {w0 : World} {H : Heap} {bw bm now turn c tn : Nat} {sl : List Value} {bs : List Nat} {l : Ents Int} {id : Int} {e : Spot} {ok : Bool} (hok : RowOk sl bs) (hw : (bw, .cells 167 523 (whRow now sl bs bm turn)) ∈ H) (hm : (bm, .obj (mapO (Value.int .i64) l c)) ∈ H) (hv : (mGet l id).getD zEnt = .agg (e.v ++ [Value.int .i64 ((tn : Nat) : Int)]).toArray) (hh : mHas l id = ok)  : PureAt Tryz.prog w0 H 82 [.pointer (some ⟨bw, 0, none⟩), .int .i64 id] (.tuple #[.agg e.v.toArray, .bool ok]) := by
 refine L_enter Tryz.func82 rfl Tryz.ntmps82 rfl rfl ?_
 refine W_sr ?_
 refine W_alloc (l := zSpot.v) ty32 rfl rfl (fun b4 => ?_)
 refine W_assign rfl rfl ?_
 refine W_nil (W_seq (W_sr ?_))
 refine W_move rfl rfl ?_
 refine W_x (X_ptrNil rfl rfl ty133) (fun _ h => by cases h) rfl ?_
 refine W_nil ?_
 refine W_condF rfl rfl ?_
 refine W_skip (W_sr ?_)
 refine W_move rfl rfl ?_
 refine W_nilCheck rfl rfl ?_
 refine W_fieldAddr rfl fld167_3 zd rfl ?_
 refine W_load (v := .map (some bm)) rfl ty161 rfl (Cell.own (b := bw) (List.mem_cons_of_mem _ hw) (wh_map hok)) rfl ?_
 refine W_move rfl rfl ?_
 refine W_lookup (a := id) (zE := zEnt) rfl rfl keyI ty161 zEz (List.mem_cons_of_mem _ hm) rfl ?_
 simp only [if_true]
 rw [hv, hh]
 refine W_move rfl rfl ?_
 refine W_extract rfl rfl rfl ?_
 refine W_extract rfl rfl rfl ?_
 refine W_alloc (l := [.int .i64 0, .int .i64 0, .int .u64 0, .int .u64 0, .int .i64 0]) ty169 rfl rfl (fun b6 => ?_)
 refine W_storeA (l' := (e.v ++ [Value.int .i64 ((tn : Nat) : Int)])) rfl rfl ty169 rfl rfl (b := b6) zM (by exact Nat.le_refl 5) rfl zU ?_
 refine W_assign rfl rfl ?_
 refine W_nil (W_sr ?_)
 refine W_fieldAddr rfl fld169_0 zd rfl ?_
 refine W_loadB (vs := e.v) rfl ty32 rfl (b := b6) zM rfl rfl rfl ?_
 refine W_move rfl rfl ?_
 refine W_storeA (l' := e.v) rfl rfl ty32 rfl rfl (b := b4) zM (by exact Nat.le_refl 4) rfl zU ?_
 refine W_assign rfl rfl ?_
 refine W_nil ?_
 refine W_ret2G (H2 := H) Tryz.results82 (.nil _) (.own rfl ty32 rfl zM rfl) (.tmp rfl) zH ?_
 exact ⟨rfl, rfl⟩
theorem time_is {now lv slot num : Nat} (hn : now ≤ 18446744073709551615) (h1 : now / 8 ^ lv < num) (h2 : num ≤ now / 8 ^ lv + 64) (hs : num % 64 = slot) : timeT now lv slot = tickT num lv := by
 have hx : now / 8 ^ lv ≤ 18446744073709551615 := Nat.le_trans (Nat.div_le_self _ _) hn
 have hd : 18446744073709551615 / 8 ^ lv ≤ 18446744073709551615 := Nat.div_le_self _ _
 unfold timeT
 generalize now / 8 ^ lv = x at *
 have hm : x + moreT x slot = num := by
  unfold moreT
  split <;> omega
 rw [hm]
 split
 ·unfold tickT
  rw [if_pos (by omega)]
 ·rfl
theorem lvOf_span {d : Nat} (h : d < 132120576) : d < 63 * 8 ^ (lvOf d).1 := by
 unfold lvOf
 (repeat' split) <;> (try simp only) <;> omega
theorem ceilT_is {t n : Nat} : t ≤ ceilT t n * 8 ^ n ∧ ceilT t n * 8 ^ n < t + 8 ^ n := by
 have hg : 0 < 8 ^ n := Nat.pow_pos zO
 unfold ceilT
 generalize 8 ^ n = g at *
 have h1 := Nat.div_add_mod t g
 have h2 := Nat.mod_lt t hg
 rw [Nat.mul_comm] at h1
 split
 ·rename_i hne
  rw [Nat.add_mul, Nat.one_mul]
  omega
 ·rename_i he
  have he' : t / g * g = t := Classical.not_not.1 he
  rw [he']; omega
theorem place_is {now at_ : Nat} (hn : now < 18446744073709551615) : ∃ num, (placeT now at_).2 = 0 ∧ (placeT now at_).1.lv < 8 ∧ (placeT now at_).1.slot = num % 64 ∧ (placeT now at_).1.due = tickT num (placeT now at_).1.lv ∧ now / 8 ^ (placeT now at_).1.lv < num ∧ num ≤ now / 8 ^ (placeT now at_).1.lv + 64 ∧ num * 8 ^ (placeT now at_).1.lv < 18446744073709551615 + 8 ^ (placeT now at_).1.lv := by
 have e : placeT now at_ = _ := if_neg zO
 rw [e]
 dsimp only
 have ht1 : now < clampT now at_ 132120575 := by unfold clampT addT; split <;> split <;> omega
 have ht2 : clampT now at_ 132120575 - now < 132120576 := by unfold clampT addT; split <;> split <;> omega
 have ht3 : clampT now at_ 132120575 ≤ 18446744073709551615 := clampT_le _ _ _
 generalize clampT now at_ 132120575 = t at *
 have hsp := lvOf_span ht2
 have hlt := lvOf_lt (t - now)
 generalize (lvOf (t - now)).1 = n at *
 obtain ⟨hc1, hc2⟩ := ceilT_is (t := t) (n := n)
 refine ⟨ceilT t n, rfl, hlt, rfl, rfl, ?_, ?_, ?_⟩
 all_goals
  have hg : 0 < 8 ^ n := Nat.pow_pos zO
  generalize ceilT t n = m at *
  generalize 8 ^ n = g at *
  have h1 := Nat.div_add_mod now g
  have h2 := Nat.mod_lt now hg
  rw [Nat.mul_comm] at h1
  generalize now / g = q at *
 ·exact Nat.lt_of_mul_lt_mul_right (a := g) zO
 ·have : m < q + 65 := Nat.lt_of_mul_lt_mul_right (a := g) (by rw [Nat.add_mul]; omega)
  omega
 ·omega
theorem due_later {now num lv : Nat} (hn : now < 18446744073709551615) (h : now / 8 ^ lv < num) : now < tickT num lv := by
 unfold tickT
 split
 ·exact hn
 ·exact (Nat.div_lt_iff_lt_mul (Nat.pow_pos zO)).1 h
structure Tm where
 id : Int
 s : Spot
 turn : Nat
def Tm.key (t : Tm) : Nat := t.s.lv * 64 + t.s.slot
def idsAt (L : List Tm) (k : Nat) : List Int := (L.filter (fun t => decide (t.key = k))).map (·.id)
def delT (L : List Tm) (id : Int) : List Tm := L.filter (fun t => decide (t.id ≠ id))
theorem idsAt_snoc (L : List Tm) (t : Tm) (k : Nat) : idsAt (L ++ [t]) k = idsAt L k ++ (if t.key = k then [t.id] else []) := by
 unfold idsAt
 rw [List.filter_append, List.map_append]
 congr 1
 by_cases e : t.key = k
 ·rw [if_pos e, List.filter_cons_of_pos (by simp [e])]; rfl
 ·rw [if_neg e, List.filter_cons_of_neg (by simp [e])]; rfl
theorem idsAt_del (L : List Tm) (id : Int) (k : Nat) : idsAt (delT L id) k = del1 (idsAt L k) id := by
 unfold idsAt delT del1
 rw [List.filter_map, List.filter_filter, List.filter_filter]
 congr 1
 refine List.filter_congr fun t _ => ?_
 exact Bool.and_comm _ _
theorem idsAt_mem {L : List Tm} {k : Nat} {id : Int} : id ∈ idsAt L k ↔ ∃ t ∈ L, t.key = k ∧ t.id = id := by
 unfold idsAt
 rw [List.mem_map]
 exact ⟨fun ⟨t, h, e⟩ => ⟨t, (List.mem_filter.1 h).1, of_decide_eq_true (List.mem_filter.1 h).2, e⟩, fun ⟨t, h, e, e2⟩ => ⟨t, List.mem_filter.2 ⟨h, decide_eq_true e⟩, e2⟩⟩
structure WhIs (now : Nat) (L : List Tm) (sl : List Value) (XS : List Heap) (bs : List Nat) (l : Ents Int) (c turn : Nat) : Prop where
 row : RowOk sl bs
 xs : XS.length = 512
 own : ∀ k, k < 512 → ∃ v X, sl[k]? = some v ∧ XS[k]? = some X ∧ OwnS 3 1 v (idsAt L k).length ((idsAt L k).map (Value.int .i64)) X
 busy : ∀ n, n < 8 → ∃ z, bs[n]? = some z ∧ z < 18446744073709551616 ∧ ∀ s, s < 64 → (z.testBit s = true ↔ idsAt L (n * 64 + s) ≠ [])
 map : MapOk l c
 keys : (l.map (·.1)).Perm (L.map (·.id))
 val : ∀ p ∈ l, ∃ t ∈ L, t.id = p.1 ∧ p.2.1 = .agg (t.s.v ++ [Value.int .i64 ((t.turn : Nat) : Int)]).toArray
 nodup : (L.map (·.id)).Nodup
 turns : L.Pairwise (fun a b => a.turn < b.turn)
 last : ∀ t ∈ L, t.turn ≤ turn
 range : ∀ t ∈ L, 0 ≤ t.id ∧ t.id < 256
 spot : ∀ t ∈ L, t.s.lv < 8 ∧ t.s.slot < 64
 time : ∀ t ∈ L, ∃ num, t.s.slot = num % 64 ∧ t.s.due = tickT num t.s.lv ∧ now / 8 ^ t.s.lv < num ∧ num ≤ now / 8 ^ t.s.lv + 64 ∧ num * 8 ^ t.s.lv < 18446744073709551615 + 8 ^ t.s.lv
theorem WhIs.new {now : Nat} : WhIs now [] sl0 (List.replicate 512 []) bs0 [] 0 0 where
 row := ok0
 xs := List.length_replicate
 own k hk := ⟨_, _, by unfold sl0; rw [List.getElem?_replicate, if_pos hk], by rw [List.getElem?_replicate, if_pos hk], OwnS.nil⟩
 busy n hn := ⟨0, by unfold bs0; rw [List.getElem?_replicate, if_pos hn], by decide, fun s _ => by simp [idsAt]⟩
 map := MapOk.nil 0
 keys := .nil
 val := fun _ h => by cases h
 nodup := List.nodup_nil
 turns := .nil
 last := fun _ h => by cases h
 range := fun _ h => by cases h
 spot := fun _ h => by cases h
 time := fun _ h => by cases h
theorem bit_or {z s j : Nat} (hj : j < 64) : (z ||| bitN (j : Int)).testBit s = (z.testBit s || decide (s = j)) := by
 have e : bitN (j : Int) = 2 ^ j := by unfold bitN; rw [if_pos (by omega)]; rfl
 rw [e, Nat.testBit_or, Nat.testBit_two_pow]
 congr 1
 exact decide_eq_decide.2 ⟨fun h => h.symm, fun h => h.symm⟩
theorem WhIs.put {now turn c z : Nat} {L : List Tm} {sl : List Value} {XS : List Heap} {bs : List Nat} {l : Ents Int} (h : WhIs now L sl XS bs l c turn) {id : Int} {e : Spot} {v' : Value} {X' : Heap} (hid : 0 ≤ id ∧ id < 256) (hnew : id ∉ L.map (·.id)) (hlv : e.lv < 8 ∧ e.slot < 64)
  (htm : ∃ num, e.slot = num % 64 ∧ e.due = tickT num e.lv ∧ now / 8 ^ e.lv < num ∧ num ≤ now / 8 ^ e.lv + 64 ∧ num * 8 ^ e.lv < 18446744073709551615 + 8 ^ e.lv) (hO : OwnS 3 1 v' (idsAt L (e.lv * 64 + e.slot) ++ [id]).length ((idsAt L (e.lv * 64 + e.slot) ++ [id]).map (Value.int .i64)) X') (hz : bs[e.lv]? = some z) :
  WhIs now (L ++ [⟨id, e, turn + 1⟩]) (sl.set (e.lv * 64 + e.slot) v') (XS.set (e.lv * 64 + e.slot) X') (bs.set e.lv (withL z [(e.slot : Int)])) (mPut l c id (.agg (e.v ++ [Value.int .i64 (((turn + 1) : Nat) : Int)]).toArray)) (mClk l c id) (turn + 1) := by
 have hk : e.lv * 64 + e.slot < 512 := by omega
 have hid' : ∀ k, idsAt (L ++ [⟨id, e, turn + 1⟩]) k = idsAt L k ++ (if e.lv * 64 + e.slot = k then [id] else []) := fun k => idsAt_snoc L ⟨id, e, turn + 1⟩ k
 have hno : mHas l id = false := by
  cases hh : mHas l id with
  | false => rfl
  | true => exact absurd (h.keys.mem_iff.1 (mHas_iff.1 hh)) hnew
 have hpl : mPut l c id (.agg (e.v ++ [Value.int .i64 (((turn + 1) : Nat) : Int)]).toArray) = l ++ [(id, .agg (e.v ++ [Value.int .i64 (((turn + 1) : Nat) : Int)]).toArray, c)] := by unfold mPut; rw [hno]; rfl
 have all : ∀ {p : Tm → Prop}, (∀ t ∈ L, p t) → p ⟨id, e, turn + 1⟩ → ∀ t ∈ L ++ [⟨id, e, turn + 1⟩], p t := fun h1 h2 t ht => by
  rcases List.mem_append.1 ht with ht | ht
  ·exact h1 t ht
  ·rw [List.mem_singleton.1 ht]; exact h2
 refine ⟨(h.row.setSl _ _).setBs _ _, by rw [List.length_set, h.xs], fun k hk2 => ?_, fun n hn => ?_, h.map.put id _, ?_, ?_, ?_, ?_, all (fun t ht => Nat.le_succ_of_le (h.last t ht)) (Nat.le_refl _), all h.range hid, all h.spot hlv, all h.time htm⟩
 ·rw [hid']
  by_cases ek : e.lv * 64 + e.slot = k
  ·subst ek
   rw [if_pos rfl]
   exact ⟨v', X', List.getElem?_set_self (by rw [h.row.sl]; exact hk), List.getElem?_set_self (by rw [h.xs]; exact hk), hO⟩
  ·rw [if_neg ek, List.append_nil]
   obtain ⟨v, X, h1, h2, h3⟩ := h.own k hk2
   exact ⟨v, X, by rw [List.getElem?_set_ne ek]; exact h1, by rw [List.getElem?_set_ne ek]; exact h2, h3⟩
 ·obtain ⟨zn, h1, h2, h3⟩ := h.busy n hn
  by_cases en : e.lv = n
  ·subst en
   obtain rfl : z = zn := Option.some.inj (hz.symm.trans h1)
   refine ⟨_, List.getElem?_set_self (by rw [h.row.bs]; exact hn), withL_ok _ h2, fun s hs => ?_⟩
   show (z ||| bitN (e.slot : Int)).testBit s = true ↔ _
   rw [bit_or hlv.2, hid', Bool.or_eq_true, h3 s hs, decide_eq_true_eq]
   by_cases es : s = e.slot
   ·subst es; rw [if_pos rfl]; simp
   ·rw [if_neg (by omega), List.append_nil]; exact ⟨fun h => h.resolve_right es, .inl⟩
  ·refine ⟨zn, by rw [List.getElem?_set_ne en]; exact h1, h2, fun s hs => ?_⟩
   rw [hid', if_neg (by omega), List.append_nil]
   exact h3 s hs
 ·rw [hpl, List.map_append, List.map_append]
  exact h.keys.append (.refl _)
 ·rw [hpl]
  intro p hp
  rcases List.mem_append.1 hp with hp | hp
  ·obtain ⟨t, ht, h1, h2⟩ := h.val p hp
   exact ⟨t, List.mem_append_left _ ht, h1, h2⟩
  ·rw [List.mem_singleton.1 hp]
   exact ⟨_, List.mem_append_right _ List.mem_cons_self, rfl, rfl⟩
 ·rw [List.map_append, List.nodup_append]
  refine ⟨h.nodup, by simp, fun a ha b hb => ?_⟩
  rw [List.mem_singleton.1 hb]
  exact fun (e : a = id) => hnew (e ▸ ha)
 ·rw [List.pairwise_append]
  refine ⟨h.turns, List.pairwise_singleton _ _, fun a ha b hb => ?_⟩
  rw [List.mem_singleton.1 hb]
  exact Nat.lt_succ_of_le (h.last a ha)
theorem tm_uniq : ∀ {L : List Tm} {t u : Tm}, (L.map (·.id)).Nodup → t ∈ L → u ∈ L → t.id = u.id → t = u
 | x :: L, t, u, hn, ht, hu, e => by
  rw [List.map_cons, List.nodup_cons] at hn
  rcases List.mem_cons.1 ht with rfl | ht' <;> rcases List.mem_cons.1 hu with rfl | hu'
  ·rfl
  ·exact absurd (e ▸ List.mem_map_of_mem hu') hn.1
  ·exact absurd (e ▸ List.mem_map_of_mem ht') hn.1
  ·exact tm_uniq hn.2 ht' hu' e
theorem bit_out {z s j : Nat} (hj : j < 64) (hs : s < 64) : (z &&& (18446744073709551615 - bitN (j : Int))).testBit s = (z.testBit s && decide (s ≠ j)) := by
 have e : bitN (j : Int) = 2 ^ j := by unfold bitN; rw [if_pos (by omega)]; rfl
 have hp := pow64 hj
 have e2 : 18446744073709551615 - 2 ^ j = 2 ^ 64 - (2 ^ j + 1) := by omega
 rw [e, Nat.testBit_and, e2, Nat.testBit_two_pow_sub_succ (by omega), Nat.testBit_two_pow, decide_eq_true hs]
 congr 1
 rw [Bool.true_and, ← decide_not]
 exact decide_eq_decide.2 ⟨fun h e => h e.symm, fun h e => h e.symm⟩
theorem WhIs.del {now turn c z : Nat} {L : List Tm} {sl : List Value} {XS : List Heap} {bs bs' : List Nat} {l : Ents Int} (h : WhIs now L sl XS bs l c turn) {t : Tm} (ht : t ∈ L) {v' : Value} {X' : Heap}
  (hO : OwnS 3 1 v' (del1 (idsAt L t.key) t.id).length ((del1 (idsAt L t.key) t.id).map (Value.int .i64)) X') (hz : bs[t.s.lv]? = some z) (hb : bs' = if (del1 (idsAt L t.key) t.id).length = 0 then bs.set t.s.lv (outL z [(t.s.slot : Int)]) else bs) :
  WhIs now (delT L t.id) (sl.set t.key v') (XS.set t.key X') bs' (mDel l t.id) c turn := by
 have hs := h.spot t ht
 have hk : t.key < 512 := by unfold Tm.key; omega
 have hoth : ∀ k, k ≠ t.key → del1 (idsAt L k) t.id = idsAt L k := fun k hne => del1_out (fun hin => by
  obtain ⟨u, hu, h1, h2⟩ := idsAt_mem.1 hin
  exact hne (h1 ▸ tm_uniq h.nodup hu ht h2 ▸ rfl))
 have hin : ∀ {p : Tm → Prop}, (∀ t ∈ L, p t) → ∀ u ∈ delT L t.id, p u := fun h1 u hu => h1 u (List.mem_filter.1 hu).1
 have hrow : RowOk (sl.set t.key v') bs' := by rw [hb]; split; exact (h.row.setSl _ _).setBs _ _; exact h.row.setSl _ _
 refine ⟨hrow, by rw [List.length_set, h.xs], fun k hk2 => ?_, fun n hn => ?_, h.map.del t.id, ?_, ?_, ?_, h.turns.filter _, hin h.last, hin h.range, hin h.spot, hin h.time⟩
 ·rw [idsAt_del]
  by_cases ek : t.key = k
  ·subst ek
   exact ⟨v', X', List.getElem?_set_self (by rw [h.row.sl]; exact hk), List.getElem?_set_self (by rw [h.xs]; exact hk), hO⟩
  ·rw [hoth k (fun e => ek e.symm)]
   obtain ⟨v, X, h1, h2, h3⟩ := h.own k hk2
   exact ⟨v, X, by rw [List.getElem?_set_ne ek]; exact h1, by rw [List.getElem?_set_ne ek]; exact h2, h3⟩
 ·obtain ⟨zn, h1, h2, h3⟩ := h.busy n hn
  have keep : ∀ s, s < 64 → n * 64 + s ≠ t.key → (zn.testBit s = true ↔ idsAt (delT L t.id) (n * 64 + s) ≠ []) := fun s hs64 hne => by rw [idsAt_del, hoth _ hne]; exact h3 s hs64
  by_cases he : (del1 (idsAt L t.key) t.id).length = 0
  ·rw [hb, if_pos he]
   have hnil := List.eq_nil_of_length_eq_zero he
   by_cases en : t.s.lv = n
   ·subst en
    obtain rfl : z = zn := Option.some.inj (hz.symm.trans h1)
    refine ⟨_, List.getElem?_set_self (by rw [h.row.bs]; exact hn), outL_ok _ h2, fun s hs64 => ?_⟩
    show (z &&& (18446744073709551615 - bitN (t.s.slot : Int))).testBit s = true ↔ _
    rw [bit_out hs.2 hs64]
    by_cases es : s = t.s.slot
    ·subst es
     rw [idsAt_del, show t.s.lv * 64 + t.s.slot = t.key from rfl, hnil]; simp
    ·rw [decide_eq_true es, Bool.and_true]
     exact keep s hs64 (by unfold Tm.key; omega)
   ·exact ⟨zn, by rw [List.getElem?_set_ne en]; exact h1, h2, fun s hs64 => keep s hs64 (by unfold Tm.key; omega)⟩
  ·rw [hb, if_neg he]
   refine ⟨zn, h1, h2, fun s hs64 => ?_⟩
   by_cases ek : n * 64 + s = t.key
   ·rw [h3 s hs64, ek, idsAt_del]
    exact ⟨fun _ e => he (by rw [e]; rfl), fun _ e => he (by rw [e]; rfl)⟩
   ·exact keep s hs64 ek
 ·have e1 : (mDel l t.id).map (·.1) = (l.map (·.1)).filter (fun x => decide (t.id ≠ x)) := by unfold mDel; rw [List.filter_map]; rfl
  have e2 : (delT L t.id).map (·.id) = (L.map (·.id)).filter (fun x => decide (t.id ≠ x)) := by
   unfold delT; rw [List.filter_map]; congr 1
   exact List.filter_congr fun u _ => decide_eq_decide.2 ⟨fun h e => h e.symm, fun h e => h e.symm⟩
  rw [e1, e2]; exact h.keys.filter _
 ·intro p hp
  obtain ⟨hp1, hp2⟩ := List.mem_filter.1 hp
  obtain ⟨u, hu, h1, h2⟩ := h.val p hp1
  exact ⟨u, List.mem_filter.2 ⟨hu, decide_eq_true (fun e => of_decide_eq_true hp2 (e ▸ h1))⟩, h1, h2⟩
 ·exact h.nodup.sublist (List.Sublist.map _ List.filter_sublist)
theorem moreT_is {x s : Nat} (hx : x ≤ 18446744073709551615) (hs : s < 64) : moreT x s = if (x + 1) % 64 ≤ s then s - (x + 1) % 64 + 1 else s + 65 - (x + 1) % 64 := by
 unfold moreT
 split <;> split <;> omega
theorem around_least {x z s : Nat} (hx : x ≤ 18446744073709551615) (h : aroundN z (((x + 1) % 64 : Nat) : Int) = some s) : s < 64 ∧ z.testBit s = true ∧ ∀ r, r < 64 → z.testBit r = true → moreT x s ≤ moreT x r := by
 obtain ⟨h1, h2⟩ := aroundN_is h
 refine ⟨h1, h2, fun r hr hb => ?_⟩
 rw [moreT_is hx h1, moreT_is hx hr]
 unfold aroundN at h
 cases hn : nextN z (((x + 1) % 64 : Nat) : Int) with
 | some i =>
  rw [hn] at h
  obtain rfl : i = s := Option.some.inj h
  obtain ⟨_, _, h3, h4⟩ := nextN_is hn
  have h5 := h4 r
  by_cases c : r < i
  ·have := h5 c hb
   split <;> split <;> omega
  ·split <;> split <;> omega
 | none =>
  rw [hn] at h
  obtain ⟨_, _, h3, h4⟩ := nextN_is h
  have lt : ∀ j, z.testBit j = true → j < 64 → (j : Int) < (((x + 1) % 64 : Nat) : Int) := fun j hj hj64 => by
   by_cases c : (j : Int) < (((x + 1) % 64 : Nat) : Int)
   ·exact c
   ·exfalso
    unfold nextN at hn
    rw [List.find?_eq_none] at hn
    exact hn j (List.mem_range.2 hj64) (by rw [hj, decide_eq_true (by omega)]; rfl)
  have l1 := lt s h2 h1
  have l2 := lt r hb hr
  have h5 : ¬ r < s := fun c => by have := h4 r c hb; omega
  split <;> split <;> omega
theorem around_none {z : Nat} {f : Int} (h : aroundN z f = none) : ∀ r, r < 64 → z.testBit r = false := fun r hr => by
 cases hb : z.testBit r with
 | false => rfl
 | true =>
  exfalso
  unfold aroundN at h
  have h0 : nextN z 0 = none := by
   cases hn : nextN z f with
   | some i => rw [hn] at h; cases h
   | none => rw [hn] at h; exact h
  unfold nextN at h0
  rw [List.find?_eq_none] at h0
  exact h0 r (List.mem_range.2 hr) (by rw [hb, decide_eq_true (by omega)]; rfl)
theorem tickT_mono {a b n : Nat} (h : a ≤ b) : tickT a n ≤ tickT b n := by
 have hm := Nat.mul_le_mul_right (8 ^ n) h
 have h0 : ¬ 18446744073709551615 / 8 ^ n < a → a * 8 ^ n ≤ 18446744073709551615 := fun hh => (Nat.le_div_iff_mul_le (Nat.pow_pos zO)).1 zO
 unfold tickT
 by_cases ha : 18446744073709551615 / 8 ^ n < a
 ·rw [if_pos ha, if_pos (by omega)]; exact Nat.le_refl _
 ·rw [if_neg ha]
  have := h0 ha
  split <;> omega
theorem nx_least {now turn c : Nat} {L : List Tm} {sl : List Value} {XS : List Heap} {bs : List Nat} {l : Ents Int} (h : WhIs now L sl XS bs l c turn) (hnow : now ≤ 18446744073709551615) : ∀ n, n ≤ 8 →
  (nx now bs n = none ∧ ∀ t ∈ L, n ≤ t.s.lv) ∨ ∃ a, nx now bs n = some a ∧ (∃ t ∈ L, t.s.lv < n ∧ t.s.due = a) ∧ ∀ t ∈ L, t.s.lv < n → a ≤ t.s.due
 | 0, _ => .inl ⟨rfl, fun _ _ => Nat.zero_le _⟩
 | n + 1, hn => by
  have ih := nx_least h hnow n zO
  obtain ⟨z, hz, hz2, hz3⟩ := h.busy n zO
  have hx : now / 8 ^ n ≤ 18446744073709551615 := Nat.le_trans (Nat.div_le_self _ _) hnow
  cases ha : aroundN z ((fromT now n : Nat) : Int) with
  | none =>
   have hno : ∀ t ∈ L, t.s.lv ≠ n := fun t ht e => by
    subst e
    have h1 := around_none ha t.s.slot (h.spot t ht).2
    have h2 := (hz3 t.s.slot (h.spot t ht).2).2 (fun e => by have := idsAt_mem.2 ⟨t, ht, rfl, rfl⟩; rw [show t.key = t.s.lv * 64 + t.s.slot from rfl, e] at this; cases this)
    rw [h1] at h2; cases h2
   rw [nx_skip hz ha]
   rcases ih with ⟨h1, h2⟩ | ⟨a, h1, ⟨t, h2, h3, h4⟩, h5⟩
   ·exact .inl ⟨h1, fun t ht => by have := h2 t ht; have := hno t ht; omega⟩
   ·exact .inr ⟨a, h1, ⟨t, h2, by omega, h4⟩, fun u hu hl => h5 u hu (by have := hno u hu; omega)⟩
  | some s =>
   obtain ⟨g1, g2, g3⟩ := around_least hx ha
   obtain ⟨id, hid⟩ : ∃ id, id ∈ idsAt L (n * 64 + s) := List.exists_mem_of_ne_nil _ ((hz3 s g1).1 g2)
   obtain ⟨t, ht, hk, _⟩ := idsAt_mem.1 hid
   have hsp := h.spot t ht
   have hk2 : t.s.lv * 64 + t.s.slot = n * 64 + s := hk
   have hlv : t.s.lv = n := by omega
   have hsl : t.s.slot = s := by omega
   have dueOf : ∀ u ∈ L, u.s.lv = n → u.s.due = timeT now n u.s.slot := fun u hu e => by
    obtain ⟨num, m1, m2, m3, m4, _⟩ := h.time u hu
    subst e
    rw [m2, time_is hnow m3 m4 m1.symm]
   have hd := dueOf t ht hlv
   rw [hsl] at hd
   have le1 : ∀ u ∈ L, u.s.lv = n → timeT now n s ≤ u.s.due := fun u hu e => by
    rw [dueOf u hu e]
    have hm := g3 u.s.slot (h.spot u hu).2 ((e ▸ hz3 u.s.slot (h.spot u hu).2).2 (fun e2 => by have := idsAt_mem.2 ⟨u, hu, rfl, rfl⟩; rw [show u.key = u.s.lv * 64 + u.s.slot from rfl, e2] at this; cases this))
    unfold timeT
    have hmo := tickT_mono (n := n) (Nat.add_le_add_left hm (now / 8 ^ n))
    have hle := tickT_le (now / 8 ^ n + moreT (now / 8 ^ n) s) n
    split <;> split <;> omega
   right
   rcases ih with ⟨h1, h2⟩ | ⟨a, h1, ⟨t2, h2, h3, h4⟩, h5⟩
   ·exact ⟨_, nx_first hz ha h1, ⟨t, ht, by omega, hd⟩, fun u hu hl => le1 u hu (by have := h2 u hu; omega)⟩
   ·refine ⟨_, nx_more hz ha h1, ?_, fun u hu hl => ?_⟩
    ·by_cases c : timeT now n s < a
     ·rw [if_pos c]; exact ⟨t, ht, by omega, hd⟩
     ·rw [if_neg c]; exact ⟨t2, h2, by omega, h4⟩
    ·by_cases e : u.s.lv = n
     ·have := le1 u hu e; split <;> omega
     ·have := h5 u hu zO; split <;> omega
theorem tickT_up {x n : Nat} : tickT x n ≤ x * 8 ^ n := by
 unfold tickT
 split
 ·rename_i h
  have := (Nat.div_lt_iff_lt_mul (Nat.pow_pos (by omega : 0 < 8))).1 h
  omega
 ·exact Nat.le_refl _
theorem WhIs.later {now now' turn c : Nat} {L : List Tm} {sl : List Value} {XS : List Heap} {bs : List Nat} {l : Ents Int} (h : WhIs now L sl XS bs l c turn) (hle : now ≤ now') (hd : ∀ t ∈ L, now' < t.s.due) : WhIs now' L sl XS bs l c turn :=
 { h with
  time := fun t ht => by
   obtain ⟨num, h1, h2, h3, h4, h5a⟩ := h.time t ht
   have h5 := hd t ht
   rw [h2] at h5
   have h6 : now' < num * 8 ^ t.s.lv := Nat.lt_of_lt_of_le h5 tickT_up
   have h7 : now / 8 ^ t.s.lv ≤ now' / 8 ^ t.s.lv := Nat.div_le_div_right hle
   exact ⟨num, h1, h2, (Nat.div_lt_iff_lt_mul (Nat.pow_pos zO)).2 h6, by omega, h5a⟩ }
theorem Put_range {bw : Nat} {id z : Int} (hid : id < 0 ∨ 256 ≤ id) : Pure Tryz.prog (fun _ => True) 79 [.pointer (some ⟨bw, 0, none⟩), .int .i64 id, .int .u64 z] (.tuple #[.agg zSpot.v.toArray, .int .i64 2]) := by
 intro w0 H hT
 refine L_enter Tryz.func79 rfl Tryz.ntmps79 rfl rfl ?_
 refine W_sr ?_
 refine W_alloc (l := zSpot.v) ty32 rfl rfl (fun b6 => ?_)
 refine W_assign rfl rfl ?_
 refine W_nil (W_seq ?_)
 refine W_block (W_sr ?_)
 refine W_move rfl rfl ?_
 refine W_x (X_ptrNil rfl rfl ty133) (fun _ h => by cases h) rfl ?_
 refine W_assign rfl rfl ?_
 refine W_nil ?_
 refine W_condF rfl rfl ?_
 refine W_sr ?_
 refine W_move rfl rfl ?_
 refine W_bin rfl rfl b_lss rfl ?_
 refine W_move rfl rfl ?_
 apply W_or
 iterate 4 exact rfl
 case h1 =>
  intro hg2
  refine W_gyes rfl rfl ?_
  refine W_move rfl rfl ?_
  refine W_gyes rfl rfl ?_
  refine W_bin rfl rfl b_geq rfl ?_
  exact W_met rfl zR
 refine W_assign rfl rfl ?_
 refine W_nil ?_
 refine W_condT rfl (by simp; omega) ?_
 refine W_sr ?_
 refine W_build ty32 pl32 .nil rfl zF rfl ?_
 refine W_storeA (l' := zSpot.v) rfl rfl ty32 rfl rfl (b := b6) zM (by exact Nat.le_refl 4) rfl zU ?_
 refine W_assign rfl rfl ?_
 refine W_nil ?_
 refine W_ret2G (H2 := H) Tryz.results79 (.nil _) (.own rfl ty32 rfl zM rfl) (.tmp rfl) zH ?_
 exact ⟨rfl, rfl⟩
theorem Put_clock {w0 : World} {H : Heap} {bw bm turn c a : Nat} {sl : List Value} {bs : List Nat} {l : Ents Int} {id : Int} (hid : 0 ≤ id ∧ id < 256) (ha : a ≤ 18446744073709551615) (hok : RowOk sl bs) (hw : (bw, .cells 167 523 (whRow 18446744073709551615 sl bs bm turn)) ∈ H) (hm : (bm, .obj (mapO (Value.int .i64) l c)) ∈ H) (hv : (mGet l id).getD zEnt = zEnt) (hh : mHas l id = false)  : PureAt Tryz.prog w0 H 79 [.pointer (some ⟨bw, 0, none⟩), .int .i64 id, .int .u64 ((a : Nat) : Int)] (.tuple #[.agg zSpot.v.toArray, .int .i64 12]) := by
 refine L_enter Tryz.func79 rfl Tryz.ntmps79 rfl rfl ?_
 refine W_sr ?_
 refine W_alloc (l := zSpot.v) ty32 rfl rfl (fun b6 => ?_)
 refine W_assign rfl rfl ?_
 refine W_nil (W_seq ?_)
 refine W_block (W_sr ?_)
 refine W_move rfl rfl ?_
 refine W_x (X_ptrNil rfl rfl ty133) (fun _ h => by cases h) rfl ?_
 refine W_assign rfl rfl ?_
 refine W_nil ?_
 refine W_condF rfl rfl ?_
 refine W_sr ?_
 refine W_move rfl rfl ?_
 refine W_bin rfl rfl b_lss rfl ?_
 refine W_move rfl rfl ?_
 apply W_or
 iterate 4 exact rfl
 case h1 =>
  intro hg2
  refine W_gyes rfl rfl ?_
  refine W_move rfl rfl ?_
  refine W_gyes rfl rfl ?_
  refine W_bin rfl rfl b_geq rfl ?_
  exact W_met rfl zR
 refine W_assign rfl rfl ?_
 refine W_nil ?_
 refine W_condF rfl (by simp; omega) ?_
 refine W_skip ?_
 refine W_blk ?_
 refine W_seq (W_sr ?_)
 refine W_move rfl rfl ?_
 refine W_nilCheck rfl rfl ?_
 refine W_fieldAddr rfl fld167_3 zd rfl ?_
 refine W_load (v := .map (some bm)) rfl ty161 rfl (Cell.own (b := bw) (List.mem_cons_of_mem _ hw) (wh_map hok)) rfl ?_
 refine W_move rfl rfl ?_
 refine W_lookup (a := id) (zE := zEnt) rfl rfl keyI ty161 zEz (List.mem_cons_of_mem _ hm) rfl ?_
 simp only [if_true]
 rw [hv, hh]
 refine W_move rfl rfl ?_
 refine W_extract rfl rfl rfl ?_
 refine W_extract rfl rfl rfl ?_
 refine W_alloc (l := [.int .i64 0, .int .i64 0, .int .u64 0, .int .u64 0, .int .i64 0]) ty169 rfl rfl (fun b8 => ?_)
 refine W_storeA (l' := [.int .i64 0, .int .i64 0, .int .u64 0, .int .u64 0, .int .i64 0]) rfl rfl ty169 rfl rfl (b := b8) zM (by exact Nat.le_refl 5) rfl zU ?_
 refine W_assign rfl rfl ?_
 refine W_nil (W_sr ?_)
 refine W_move rfl rfl ?_
 refine W_nil ?_
 refine W_condF rfl rfl ?_
 refine W_skip (W_sr ?_)
 refine W_move rfl rfl ?_
 refine W_nilCheck rfl rfl ?_
 refine W_fieldAddr rfl fld167_0 zd rfl ?_
 refine W_load (v := .int .u64 ((18446744073709551615 : Nat) : Int)) rfl ty22 rfl (Cell.own (b := bw) (by repeat (first | exact hw | exact List.mem_cons_self | apply List.mem_cons_of_mem | apply List.mem_append_right)) wh_now) rfl ?_
 refine W_move rfl rfl ?_
 refine W_callp (.cons rfl (.cons rfl .nil)) Tryz.call105 rfl (T := fun _ => True) trivial (Place_pure (a := 18446744073709551615) (b := a) (Nat.le_refl _) ha) ?_
 rw [show placeT 18446744073709551615 a = (zSpot, 12) from if_pos rfl]
 refine W_move rfl rfl ?_
 refine W_extract rfl rfl rfl ?_
 refine W_extract rfl rfl rfl ?_
 refine W_alloc (l := zSpot.v) ty32 rfl rfl (fun b10 => ?_)
 refine W_storeA (l' := zSpot.v) rfl rfl ty32 rfl rfl (b := b10) zM (by exact Nat.le_refl 4) rfl zU ?_
 refine W_assign rfl rfl ?_
 refine W_nil (W_seq (W_sr ?_))
 refine W_move rfl rfl ?_
 refine W_bin rfl rfl b_neq rfl ?_
 refine W_nil ?_
 refine W_condT rfl rfl ?_
 refine W_sr ?_
 refine W_build ty32 pl32 .nil rfl zF rfl ?_
 refine W_move rfl rfl ?_
 refine W_storeA (l' := zSpot.v) rfl rfl ty32 rfl rfl (b := b6) zM (by exact Nat.le_refl 4) rfl zU ?_
 refine W_assign rfl rfl ?_
 refine W_nil ?_
 refine W_ret2G (H2 := H) Tryz.results79 (.nil _) (.own rfl ty32 rfl zM rfl) (.tmp rfl) zH ?_
 exact ⟨rfl, rfl⟩
theorem flat_out {XS : List Heap} {k : Nat} {B H : Heap} (h : XS[k]? = some B) : HSub (XS.flatten ++ H) (B ++ ((XS.set k []).flatten ++ H)) :=
 HSub.of_perm (((flat_take h).append_right H).trans (by rw [List.append_assoc]))
theorem flat_in {XS : List Heap} {k : Nat} {B H : Heap} (h : k < XS.length) : HSub (B ++ ((XS.set k []).flatten ++ H)) ((XS.set k B).flatten ++ H) :=
 by
 have h1 := (flat_put (B := B) h).append_right H
 rw [List.append_assoc] at h1
 exact HSub.of_perm h1
inductive WheelH (bw now : Nat) (L : List Tm) (turn : Nat) : Heap → Prop
 | mk {bm c : Nat} {sl : List Value} {XS : List Heap} {bs : List Nat} {l : Ents Int} (h : WhIs now L sl XS bs l c turn) : WheelH bw now L turn ((bw, .cells 167 523 (whRow now sl bs bm turn)) :: (bm, .obj (mapO (Value.int .i64) l c)) :: XS.flatten)
theorem nodup_len : ∀ {n : Nat} {l : List Int}, l.Nodup → (∀ x ∈ l, 0 ≤ x ∧ x < (n : Int)) → l.length ≤ n
 | 0, l, _, h => by
  cases l with
  | nil => exact Nat.le_refl _
  | cons x l => have := h x List.mem_cons_self; omega
 | n + 1, l, hn, h => by
  have h1 := nodup_len (n := n) (hn.filter (fun x => decide (x ≠ (n : Int)))) (fun x hx => by
   obtain ⟨m1, m2⟩ := List.mem_filter.1 hx
   have := h x m1
   have := of_decide_eq_true m2
   omega)
  by_cases c : (n : Int) ∈ l
  ·have h2 : l.length = (l.filter (fun x => decide (x ≠ (n : Int)))).length + 1 := by
    have e : l.erase (n : Int) = l.filter (fun x => decide (x ≠ (n : Int))) := by
     rw [hn.erase_eq_filter]
     exact List.filter_congr fun x _ => by
      by_cases e : x = (n : Int) <;> simp [e]
    rw [← e, List.length_erase_of_mem c]
    have := List.length_pos_of_mem c
    omega
   omega
  ·have h2 : l.filter (fun x => decide (x ≠ (n : Int))) = l := List.filter_eq_self.2 fun x hx => decide_eq_true (fun e => c (e ▸ hx))
   rw [h2] at h1; omega
theorem WhIs.len {now turn c : Nat} {L : List Tm} {sl : List Value} {XS : List Heap} {bs : List Nat} {l : Ents Int} (h : WhIs now L sl XS bs l c turn) : L.length ≤ 256 := by
 have := nodup_len (n := 256) h.nodup (fun x hx => by
  obtain ⟨t, ht, rfl⟩ := List.mem_map.1 hx
  exact h.range t ht)
 rwa [List.length_map] at this
theorem idsAt_len (L : List Tm) (k : Nat) : (idsAt L k).length ≤ L.length := by
 unfold idsAt; rw [List.length_map]; exact List.length_filter_le _ _
theorem WhIs.miss {now turn c : Nat} {L : List Tm} {sl : List Value} {XS : List Heap} {bs : List Nat} {l : Ents Int} (h : WhIs now L sl XS bs l c turn) {id : Int} (hn : id ∉ L.map (·.id)) : (mGet l id).getD zEnt = zEnt ∧ mHas l id = false := by
 have h1 : mHas l id = false := by
  cases hh : mHas l id with
  | false => rfl
  | true => exact absurd (h.keys.mem_iff.1 (mHas_iff.1 hh)) hn
 refine ⟨?_, h1⟩
 unfold mGet
 cases hf : l.find? (fun p => decide (id = p.1)) with
 | none => rfl
 | some p =>
  exfalso
  have h2 := List.find?_some hf
  have h3 := List.mem_of_find?_eq_some hf
  have : id ∈ l.map (·.1) := by
   rw [of_decide_eq_true h2]; exact List.mem_map_of_mem h3
  exact hn (h.keys.mem_iff.1 this)
theorem Put_at {w0 : World} {H : Heap} {now turn c : Nat} {L : List Tm} {sl : List Value} {XS : List Heap} {bs : List Nat} {l : Ents Int} {bw bm a : Nat} {id : Int} {e : Spot} (h : WhIs now L sl XS bs l c turn) (hnow : now < 18446744073709551615) (ha : a ≤ 18446744073709551615) (hid : 0 ≤ id ∧ id < 256) (htn : turn ≤ 4611686018427387904) (he : (placeT now a) = (e, 0)) (hsp : e.lv < 8 ∧ e.slot < 64) (hv : (mGet l id).getD zEnt = zEnt) (hh : mHas l id = false)  : LCalls Tryz.prog w0 79 #[.pointer (some ⟨bw, 0, none⟩), .int .i64 id, .int .u64 ((a : Nat) : Int)] ((bw, .cells 167 523 (whRow now sl bs bm turn)) :: (bm, .obj (mapO (Value.int .i64) l c)) :: (XS.flatten ++ H)) (fun v H' => ∃ v' X' z, v = .tuple #[.agg e.v.toArray, .int .i64 0] ∧ OwnS 3 1 v' (idsAt L (e.lv * 64 + e.slot) ++ [id]).length ((idsAt L (e.lv * 64 + e.slot) ++ [id]).map (Value.int .i64)) X' ∧ bs[e.lv]? = some z ∧ H' = (bw, .cells 167 523 (whRow now (sl.set (e.lv * 64 + e.slot) v') (bs.set e.lv (withL z [(e.slot : Int)])) bm (turn + 1))) :: (bm, .obj (mapO (Value.int .i64) (mPut l c id (.agg (e.v ++ [Value.int .i64 (((turn + 1) : Nat) : Int)]).toArray)) (mClk l c id))) :: ((XS.set (e.lv * 64 + e.slot) X').flatten ++ H)) := by
 refine L_enter (l := [.pointer (some ⟨bw, 0, none⟩), .int .i64 id, .int .u64 ((a : Nat) : Int)]) Tryz.func79 rfl Tryz.ntmps79 rfl rfl ?_
 refine W_sr ?_
 refine W_alloc (l := zSpot.v) ty32 rfl rfl (fun b6 => ?_)
 refine W_assign rfl rfl ?_
 refine W_nil (W_seq ?_)
 refine W_block (W_sr ?_)
 refine W_move rfl rfl ?_
 refine W_x (X_ptrNil rfl rfl ty133) (fun _ h => by cases h) rfl ?_
 refine W_assign rfl rfl ?_
 refine W_nil ?_
 refine W_condF rfl rfl ?_
 refine W_sr ?_
 refine W_move rfl rfl ?_
 refine W_bin rfl rfl b_lss rfl ?_
 refine W_move rfl rfl ?_
 apply W_or
 iterate 4 exact rfl
 case h1 =>
  intro hg2
  refine W_gyes rfl rfl ?_
  refine W_move rfl rfl ?_
  refine W_gyes rfl rfl ?_
  refine W_bin rfl rfl b_geq rfl ?_
  exact W_met rfl zR
 refine W_assign rfl rfl ?_
 refine W_nil ?_
 refine W_condF rfl (by simp; omega) ?_
 refine W_skip ?_
 refine W_blk ?_
 refine W_seq (W_sr ?_)
 refine W_move rfl rfl ?_
 refine W_nilCheck rfl rfl ?_
 refine W_fieldAddr rfl fld167_3 zd rfl ?_
 refine W_load (v := .map (some bm)) rfl ty161 rfl (Cell.own (b := bw) zM (wh_map h.row)) rfl ?_
 refine W_move rfl rfl ?_
 refine W_lookup (b := bm) (a := id) (zE := zEnt) rfl rfl keyI ty161 zEz zM rfl ?_
 simp only [if_true]
 rw [hv, hh]
 refine W_move rfl rfl ?_
 refine W_extract rfl rfl rfl ?_
 refine W_extract rfl rfl rfl ?_
 refine W_alloc (l := [.int .i64 0, .int .i64 0, .int .u64 0, .int .u64 0, .int .i64 0]) ty169 rfl rfl (fun b8 => ?_)
 refine W_storeA (l' := [.int .i64 0, .int .i64 0, .int .u64 0, .int .u64 0, .int .i64 0]) rfl rfl ty169 rfl rfl (b := b8) zM (by exact Nat.le_refl 5) rfl zU ?_
 refine W_assign rfl rfl ?_
 refine W_nil (W_sr ?_)
 refine W_move rfl rfl ?_
 refine W_nil ?_
 refine W_condF rfl rfl ?_
 refine W_skip (W_sr ?_)
 refine W_move rfl rfl ?_
 refine W_nilCheck rfl rfl ?_
 refine W_fieldAddr rfl fld167_0 zd rfl ?_
 refine W_load (v := .int .u64 (now : Int)) rfl ty22 rfl (Cell.own (b := bw) zM wh_now) rfl ?_
 refine W_move rfl rfl ?_
 refine W_callp (.cons rfl (.cons rfl .nil)) Tryz.call105 rfl (T := fun _ => True) trivial (Place_pure (a := now) (b := a) zO ha) ?_
 rw [he]
 refine W_move rfl rfl ?_
 refine W_extract rfl rfl rfl ?_
 refine W_extract rfl rfl rfl ?_
 refine W_alloc (l := zSpot.v) ty32 rfl rfl (fun b10 => ?_)
 refine W_storeA (l' := e.v) rfl rfl ty32 rfl rfl (b := b10) zM (by exact Nat.le_refl 4) rfl zU ?_
 refine W_assign rfl rfl ?_
 refine W_nil (W_seq (W_sr ?_))
 refine W_move rfl rfl ?_
 refine W_bin rfl rfl b_neq rfl ?_
 refine W_nil ?_
 refine W_condF rfl rfl ?_
 refine W_skip (W_sr ?_)
 refine W_move rfl rfl ?_
 refine W_nilCheck rfl rfl ?_
 refine W_fieldAddr rfl fld167_4 zd rfl ?_
 refine W_load (v := .int .i64 (turn : Int)) rfl ty3 rfl (Cell.own (b := bw) zM (wh_turn h.row)) rfl ?_
 refine W_bin rfl rfl (b_add (m := ((turn + 1 : Nat) : Int)) (by rw [i64w (by omega)]; omega)) rfl ?_
 refine W_nilCheck rfl rfl ?_
 refine W_fieldAddr rfl fld167_4 zd rfl ?_
 refine W_store (l' := whRow now sl bs bm (turn + 1)) rfl rfl ty3 rfl rfl (b := bw) zM (by rw [wh_len h.row]; rfl) (wh_setTurn h.row) zU ?_
 refine W_nil (W_seq ?_)
 refine W_anyC [(b10, .cells 32 4 e.v), (bw, .cells 167 523 (whRow now sl bs bm (turn + 1)))] zk ?_
 refine WC_take 0 (l' := #[true, false, false, false, false, false, false, false, false, false, false, false]) rfl zK zK zK rfl zK (X_move rfl) rfl ?_
 refine WC_take 1 (l' := #[true, true, false, false, false, false, false, false, false, false, false, false]) rfl zK zK zK rfl zK (X_nilCheck rfl) rfl ?_
 refine WC_take 2 (l' := #[true, true, true, false, false, false, false, false, false, false, false, false]) rfl zK zK zK rfl zK (X_fieldAddr rfl fld167_3 zd) rfl ?_
 refine WC_take 3 (l' := #[true, true, true, true, false, false, false, false, false, false, false, false]) rfl zK zK zK rfl zK (X_load (v := .map (some bm)) rfl ty161 rfl (Cell.own (b := bw) zM (wh_map h.row))) rfl ?_
 refine WC_take 4 (l' := #[true, true, true, true, true, false, false, false, false, false, false, false]) rfl zK zK zK rfl zK (X_move rfl) rfl ?_
 refine WC_take 5 (l' := #[true, true, true, true, true, true, false, false, false, false, false, false]) rfl zK zK zK rfl zK (X_loadB (vs := e.v) rfl ty32 rfl (b := b10) zM rfl rfl) rfl ?_
 refine WC_take 6 (l' := #[true, true, true, true, true, true, true, false, false, false, false, false]) rfl zK zK zK rfl zK (X_move rfl) rfl ?_
 refine WC_take 7 (l' := #[true, true, true, true, true, true, true, true, false, false, false, false]) rfl zK zK zK rfl zK (X_nilCheck rfl) rfl ?_
 refine WC_take 8 (l' := #[true, true, true, true, true, true, true, true, true, false, false, false]) rfl zK zK zK rfl zK (X_fieldAddr rfl fld167_4 zd) rfl ?_
 refine WC_take 9 (l' := #[true, true, true, true, true, true, true, true, true, true, false, false]) rfl zK zK zK rfl zK (X_load (v := .int .i64 ((turn + 1 : Nat) : Int)) rfl ty3 rfl (Cell.own (b := bw) zM (wh_turn h.row))) rfl ?_
 refine WC_take 10 (l' := #[true, true, true, true, true, true, true, true, true, true, true, false]) rfl zK zK zK rfl zK (X_build (l := (e.v ++ [Value.int .i64 (((turn + 1) : Nat) : Int)])) ty169 pl169 (.cons rfl rfl rfl rfl rfl (.cons rfl rfl rfl rfl rfl .nil)) rfl rfl) rfl ?_
 refine WC_one 11 (l' := #[true, true, true, true, true, true, true, true, true, true, true, true]) zH zK rfl zK ?_
 refine W_mapUpdate (a := id) (b := bm) rfl rfl rfl keyI ty161 h.map zU ?_
 refine W_nil ?_
 refine WC_goal ?_
 refine WC_done zH zK ?_
 refine W_seq ?_
 obtain ⟨v, X, hsl, hX, hO⟩ := h.own (e.lv * 64 + e.slot) zO
 have hlen := h.len
 have hil := idsAt_len L (e.lv * 64 + e.slot)
 refine W_hsub (.cons (.here _) (.drop (.cons (.here _) (.cons (.here _) (.cons (.here _) (flat_out hX)))))) ?_
 refine W_anyS [(b10, .cells 32 4 e.v), (bw, .cells 167 523 (whRow now sl bs bm (turn + 1)))] 22 zk ?_
 refine WS_take 0 (l' := #[true, false, false, false, false, false, false, false, false, false, false, false, false, false, false, false, false, false, false, false, false, false, false]) rfl rfl zK zK zK zK rfl zK (X_move rfl) rfl ?_
 refine WS_take 1 (l' := #[true, true, false, false, false, false, false, false, false, false, false, false, false, false, false, false, false, false, false, false, false, false, false]) rfl rfl zK zK zK zK rfl zK (X_fieldAddr rfl fld32_0 zd) rfl ?_
 refine WS_take 2 (l' := #[true, true, true, false, false, false, false, false, false, false, false, false, false, false, false, false, false, false, false, false, false, false, false]) rfl rfl zK zK zK zK rfl zK (X_load (v := .int .i64 (e.lv : Int)) rfl ty3 rfl (Cell.own (b := b10) zM rfl)) rfl ?_
 refine WS_take 3 (l' := #[true, true, true, true, false, false, false, false, false, false, false, false, false, false, false, false, false, false, false, false, false, false, false]) rfl rfl zK zK zK zK rfl zK (X_fieldAddr rfl fld32_1 zd) rfl ?_
 refine WS_take 4 (l' := #[true, true, true, true, true, false, false, false, false, false, false, false, false, false, false, false, false, false, false, false, false, false, false]) rfl rfl zK zK zK zK rfl zK (X_load (v := .int .i64 (e.slot : Int)) rfl ty3 rfl (Cell.own (b := b10) zM rfl)) rfl ?_
 refine WS_take 5 (l' := #[true, true, true, true, true, true, false, false, false, false, false, false, false, false, false, false, false, false, false, false, false, false, false]) rfl rfl zK zK zK zK rfl zK (X_move rfl) rfl ?_
 refine WS_take 6 (l' := #[true, true, true, true, true, true, true, false, false, false, false, false, false, false, false, false, false, false, false, false, false, false, false]) rfl rfl zK zK zK zK rfl zK (X_fieldAddr rfl fld32_0 zd) rfl ?_
 refine WS_take 7 (l' := #[true, true, true, true, true, true, true, true, false, false, false, false, false, false, false, false, false, false, false, false, false, false, false]) rfl rfl zK zK zK zK rfl zK (X_load (v := .int .i64 (e.lv : Int)) rfl ty3 rfl (Cell.own (b := b10) zM rfl)) rfl ?_
 refine WS_take 8 (l' := #[true, true, true, true, true, true, true, true, true, false, false, false, false, false, false, false, false, false, false, false, false, false, false]) rfl rfl zK zK zK zK rfl zK (X_fieldAddr rfl fld32_1 zd) rfl ?_
 refine WS_take 9 (l' := #[true, true, true, true, true, true, true, true, true, true, false, false, false, false, false, false, false, false, false, false, false, false, false]) rfl rfl zK zK zK zK rfl zK (X_load (v := .int .i64 (e.slot : Int)) rfl ty3 rfl (Cell.own (b := b10) zM rfl)) rfl ?_
 refine WS_take 10 (l' := #[true, true, true, true, true, true, true, true, true, true, true, false, false, false, false, false, false, false, false, false, false, false, false]) rfl rfl zK zK zK zK rfl zK (X_nilCheck rfl) rfl ?_
 refine WS_take 11 (l' := #[true, true, true, true, true, true, true, true, true, true, true, true, false, false, false, false, false, false, false, false, false, false, false]) rfl rfl zK zK zK zK rfl zK (X_fieldAddr rfl fld167_1 zd) rfl ?_
 refine WS_take 12 (l' := #[true, true, true, true, true, true, true, true, true, true, true, true, true, false, false, false, false, false, false, false, false, false, false]) rfl rfl zK zK zK zK rfl zK (X_indexAddrA (j := e.lv) rfl rfl ty163 ty162 rfl hsp.1 (at_ := 1 + e.lv * 64) zO) rfl ?_
 refine WS_take 13 (l' := #[true, true, true, true, true, true, true, true, true, true, true, true, true, true, false, false, false, false, false, false, false, false, false]) rfl rfl zK zK zK zK rfl zK (X_indexAddrA (j := e.slot) rfl rfl ty162 ty24 rfl hsp.2 (at_ := 1 + (e.lv * 64 + e.slot)) zO) rfl ?_
 refine WS_take 14 (l' := #[true, true, true, true, true, true, true, true, true, true, true, true, true, true, true, false, false, false, false, false, false, false, false]) rfl rfl zK zK zK zK rfl zK (X_load (v := v) rfl ty24 rfl (Cell.own (b := bw) zM (wh_sl h.row hsl))) rfl ?_
 refine WS_take 15 (l' := #[true, true, true, true, true, true, true, true, true, true, true, true, true, true, true, true, false, false, false, false, false, false, false]) rfl rfl zK zK zK zK rfl zK (X_move rfl) rfl ?_
 refine WS_takeP 18 (l' := #[true, true, true, true, true, true, true, true, true, true, true, true, true, true, true, true, false, false, true, false, false, false, false]) rfl rfl zK zK zK rfl zK (X_nilCheck rfl) rfl ?_
 refine WS_takeP 19 (l' := #[true, true, true, true, true, true, true, true, true, true, true, true, true, true, true, true, false, false, true, true, false, false, false]) rfl rfl zK zK zK rfl zK (X_fieldAddr rfl fld167_1 zd) rfl ?_
 refine WS_takeP 20 (l' := #[true, true, true, true, true, true, true, true, true, true, true, true, true, true, true, true, false, false, true, true, true, false, false]) rfl rfl zK zK zK rfl zK (X_indexAddrA (j := e.lv) rfl rfl ty163 ty162 rfl hsp.1 (at_ := 1 + e.lv * 64) zO) rfl ?_
 refine WS_one 16 (l' := #[true, true, true, true, true, true, true, true, true, true, true, true, true, true, true, true, true, false, true, true, true, false, false]) zH rfl zK rfl zK ?_
 refine W_buildSlice ty24 ty3 (.cons rfl rfl rfl rfl rfl .nil) rfl rfl rfl rfl rfl rfl rfl (fun b82 => ?_)
 refine W_nil ?_
 refine WS_goal ?_
 refine WS_one 17 (l' := #[true, true, true, true, true, true, true, true, true, true, true, true, true, true, true, true, true, true, true, true, true, false, false]) zH rfl zK rfl zK ?_
 refine W_append (news := [.int .i64 id]) (m := 1) (HB := X) (H0 := (b82, .cells 3 1 [.int .i64 id]) :: (b10, .cells 32 4 e.v) :: (b6, .cells 32 4 zSpot.v) :: (bw, .cells 167 523 (whRow now sl bs bm (turn + 1))) :: (bm, .obj (mapO (Value.int .i64) (mPut l c id (.agg (e.v ++ [Value.int .i64 (((turn + 1) : Nat) : Int)]).toArray)) (mClk l c id))) :: ((XS.set (e.lv * 64 + e.slot) []).flatten ++ H)) rfl rfl ty24 ty3 rfl (by decide) hO rfl (Holds.own List.mem_cons_self) rfl (by simp only [maxLen]; omega) (by omega) zH rfl (fun v' X' hO' => ?_)
 refine W_nil ?_
 refine WS_goal ?_
 refine WS_take 21 (l' := #[true, true, true, true, true, true, true, true, true, true, true, true, true, true, true, true, true, true, true, true, true, true, false]) rfl rfl zK zK zK zK rfl zK (X_indexAddrA (j := e.slot) rfl rfl ty162 ty24 rfl hsp.2 (at_ := 1 + (e.lv * 64 + e.slot)) zO) rfl ?_
 refine WS_last (l' := #[true, true, true, true, true, true, true, true, true, true, true, true, true, true, true, true, true, true, true, true, true, true, true]) zH zK rfl zK ?_
 have hv1 : v'.oneCell' = true := by obtain ⟨_, _, rfl, _⟩ := hO'.shape; rfl
 refine W_store (l' := whRow now (sl.set (e.lv * 64 + e.slot) v') bs bm (turn + 1)) rfl rfl ty24 hv1 rfl (b := bw) zM (by rw [wh_len h.row, Nat.blt_eq]; omega) (wh_setSl h.row (by omega)) zU ?_
 refine W_nil ?_
 refine WC_goal ?_
 refine WC_done (.nil _) zK ?_
 refine W_seq ?_
 obtain ⟨z, hz, hz2, _⟩ := h.busy e.lv hsp.1
 have hok2 := h.row.setSl (e.lv * 64 + e.slot) v'
 refine W_hsub (H' := (b10, .cells 32 4 e.v) :: (b6, .cells 32 4 zSpot.v) :: (bw, .cells 167 523 (whRow now (sl.set (e.lv * 64 + e.slot) v') bs bm (turn + 1))) :: (bm, .obj (mapO (Value.int .i64) (mPut l c id (.agg (e.v ++ [Value.int .i64 (((turn + 1) : Nat) : Int)]).toArray)) (mClk l c id))) :: ((XS.set (e.lv * 64 + e.slot) X').flatten ++ H)) ((show HSub _ ((b10, .cells 32 4 e.v) :: (b6, .cells 32 4 zSpot.v) :: (bw, .cells 167 523 (whRow now (sl.set (e.lv * 64 + e.slot) v') bs bm (turn + 1))) :: (bm, .obj (mapO (Value.int .i64) (mPut l c id (.agg (e.v ++ [Value.int .i64 (((turn + 1) : Nat) : Int)]).toArray)) (mClk l c id))) :: (X' ++ ((XS.set (e.lv * 64 + e.slot) []).flatten ++ H))) from zH).trans (.cons (.here _) (.cons (.here _) (.cons (.here _) (.cons (.here _) (flat_in (by rw [h.xs]; omega))))))) ?_
 refine W_anyS [(b10, .cells 32 4 e.v), (bw, .cells 167 523 (whRow now (sl.set (e.lv * 64 + e.slot) v') bs bm (turn + 1)))] 17 zk ?_
 refine WS_take 0 (l' := #[true, false, false, false, false, false, false, false, false, false, false, false, false, false, false, false, false, false]) rfl rfl zK zK zK zK rfl zK (X_move rfl) rfl ?_
 refine WS_take 1 (l' := #[true, true, false, false, false, false, false, false, false, false, false, false, false, false, false, false, false, false]) rfl rfl zK zK zK zK rfl zK (X_fieldAddr rfl fld32_0 zd) rfl ?_
 refine WS_take 2 (l' := #[true, true, true, false, false, false, false, false, false, false, false, false, false, false, false, false, false, false]) rfl rfl zK zK zK zK rfl zK (X_load (v := .int .i64 (e.lv : Int)) rfl ty3 rfl (Cell.own (b := b10) zM rfl)) rfl ?_
 refine WS_take 3 (l' := #[true, true, true, true, false, false, false, false, false, false, false, false, false, false, false, false, false, false]) rfl rfl zK zK zK zK rfl zK (X_move rfl) rfl ?_
 refine WS_take 4 (l' := #[true, true, true, true, true, false, false, false, false, false, false, false, false, false, false, false, false, false]) rfl rfl zK zK zK zK rfl zK (X_fieldAddr rfl fld32_0 zd) rfl ?_
 refine WS_take 5 (l' := #[true, true, true, true, true, true, false, false, false, false, false, false, false, false, false, false, false, false]) rfl rfl zK zK zK zK rfl zK (X_load (v := .int .i64 (e.lv : Int)) rfl ty3 rfl (Cell.own (b := b10) zM rfl)) rfl ?_
 refine WS_take 6 (l' := #[true, true, true, true, true, true, true, false, false, false, false, false, false, false, false, false, false, false]) rfl rfl zK zK zK zK rfl zK (X_nilCheck rfl) rfl ?_
 refine WS_take 7 (l' := #[true, true, true, true, true, true, true, true, false, false, false, false, false, false, false, false, false, false]) rfl rfl zK zK zK zK rfl zK (X_fieldAddr rfl fld167_2 zd) rfl ?_
 refine WS_take 8 (l' := #[true, true, true, true, true, true, true, true, true, false, false, false, false, false, false, false, false, false]) rfl rfl zK zK zK zK rfl zK (X_indexAddrA (j := e.lv) rfl rfl ty165 ty164 rfl hsp.1 (at_ := 513 + e.lv) zO) rfl ?_
 refine WS_take 9 (l' := #[true, true, true, true, true, true, true, true, true, true, false, false, false, false, false, false, false, false]) rfl rfl zK zK zK zK rfl zK (X_load (v := .int .u64 (z : Int)) rfl ty164 rfl (Cell.own (b := bw) zM (wh_bs hok2 hz))) rfl ?_
 refine WS_take 10 (l' := #[true, true, true, true, true, true, true, true, true, true, true, false, false, false, false, false, false, false]) rfl rfl zK zK zK zK rfl zK (X_fieldAddr rfl fld32_1 zd) rfl ?_
 refine WS_take 11 (l' := #[true, true, true, true, true, true, true, true, true, true, true, true, false, false, false, false, false, false]) rfl rfl zK zK zK zK rfl zK (X_load (v := .int .i64 (e.slot : Int)) rfl ty3 rfl (Cell.own (b := b10) zM rfl)) rfl ?_
 refine WS_takeP 14 (l' := #[true, true, true, true, true, true, true, true, true, true, true, true, false, false, true, false, false, false]) rfl rfl zK zK zK rfl zK (X_nilCheck rfl) rfl ?_
 refine WS_takeP 15 (l' := #[true, true, true, true, true, true, true, true, true, true, true, true, false, false, true, true, false, false]) rfl rfl zK zK zK rfl zK (X_fieldAddr rfl fld167_2 zd) rfl ?_
 refine WS_one 12 (l' := #[true, true, true, true, true, true, true, true, true, true, true, true, true, false, true, true, false, false]) zH rfl zK rfl zK ?_
 refine W_buildSlice ty24 ty3 (.cons rfl rfl rfl rfl rfl .nil) rfl rfl rfl rfl rfl rfl rfl (fun b100 => ?_)
 refine W_nil ?_
 refine WS_goal ?_
 refine WS_one 13 (l' := #[true, true, true, true, true, true, true, true, true, true, true, true, true, true, true, true, false, false]) zH rfl zK rfl zK ?_
 refine W_callq (.cons rfl (.cons rfl .nil)) Tryz.call106 rfl (with_q (l := [(e.slot : Int)]) hz2 (show 1 ≤ 4611686018427387904 by decide) (Holds.own (b := b100) zM)) ?_
 refine W_nil ?_
 refine WS_goal ?_
 refine WS_take 16 (l' := #[true, true, true, true, true, true, true, true, true, true, true, true, true, true, true, true, true, false]) rfl rfl zK zK zK zK rfl zK (X_indexAddrA (j := e.lv) rfl rfl ty165 ty164 rfl hsp.1 (at_ := 513 + e.lv) zO) rfl ?_
 refine WS_last (l' := #[true, true, true, true, true, true, true, true, true, true, true, true, true, true, true, true, true, true]) zH zK rfl zK ?_
 refine W_store (l' := (whRow now (sl.set (e.lv * 64 + e.slot) v') (bs.set e.lv (withL z [(e.slot : Int)])) bm (turn + 1))) rfl rfl ty164 rfl rfl (b := bw) zM (by rw [wh_len hok2, Nat.blt_eq]; omega) (wh_setBs hok2 hsp.1) zU ?_
 refine W_nil ?_
 refine WC_goal ?_
 refine WC_done (.nil _) zK ?_
 refine W_sr ?_
 refine W_loadB (vs := e.v) rfl ty32 rfl (b := b10) zM rfl rfl rfl ?_
 refine W_storeA (l' := e.v) rfl rfl ty32 rfl rfl (b := b6) zM (by exact Nat.le_refl 4) rfl zU ?_
 refine W_assign rfl rfl ?_
 refine W_nil ?_
 refine W_ret2G (H2 := (bw, .cells 167 523 (whRow now (sl.set (e.lv * 64 + e.slot) v') (bs.set e.lv (withL z [(e.slot : Int)])) bm (turn + 1))) :: (bm, .obj (mapO (Value.int .i64) (mPut l c id (.agg (e.v ++ [Value.int .i64 (((turn + 1) : Nat) : Int)]).toArray)) (mClk l c id))) :: ((XS.set (e.lv * 64 + e.slot) X').flatten ++ H)) Tryz.results79 (.nil _) (.own rfl ty32 rfl zM rfl) (.tmp rfl) zH ?_
 exact ⟨v', X', z, rfl, by rw [List.length_append, List.map_append]; exact hO', hz, rfl⟩
end Go.Proofs.YtcmfldfeakmdoaaGreatDoor
